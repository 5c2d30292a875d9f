import Derived.Test.YtjdoijdjeapekaaDoorLcG4
import Derived.Test.YtjdoijdjeapekaaDoorLcG1
import Derived.KernelRfl
import Derived.Test.YtjdoijdjeapekaaDoorLcG3
section
/- SHA-256: the program's rounds and the reference's are the same. -/
namespace Go.Lc
open Go.RowKit
open Go.Av
set_option linter.unusedVariables false

def rot (x n : Int) : Int:=bits .or .u32 (IntKind.u32.wrap (x * (2 ^ (min (bits .and .u64 (IntKind.u64.wrap n) 31).toNat 32)))) (x.fdiv (2 ^ (min (IntKind.u64.wrap (32 - (bits .and .u64 (IntKind.u64.wrap n) 31))).toNat 32)))
def rr (x n : Int) : Int:=rot x (IntKind.i64.wrap (-n))
/-! the words of a block -/
def wd (b : Arr 64) (i : Nat) : Nat→Int
 | 0=>0
 | j + 1=>bits .or .u32 (IntKind.u32.wrap (wd b i j * 256)) (IntKind.u32.wrap (b.at (4 * i + j)))
def sch1 (b : Arr 64) : Nat→Arr 64
 | 0=>zA 64
 | i + 1=>(sch1 b i).put i (wd b i 4)
def nxtW (w : Arr 64) (i : Nat) : Int:=IntKind.u32.wrap ((IntKind.u32.wrap ((IntKind.u32.wrap ((w.at (i - 16)) + (bits .xor .u32 (bits .xor .u32 (rr (w.at (i - 15)) 7) (rr (w.at (i - 15)) 18)) ((w.at (i - 15)).fdiv 8)))) + (w.at (i - 7)))) + (bits .xor .u32 (bits .xor .u32 (rr (w.at (i - 2)) 17) (rr (w.at (i - 2)) 19)) ((w.at (i - 2)).fdiv 1024)))
def sch2 (w : Arr 64) : Nat→Arr 64
 | 0=>w
 | k + 1=>(sch2 w k).put (16 + k) (nxtW (sch2 w k) (16 + k))
def sched (b : Arr 64) : Arr 64:=sch2 (sch1 b 16) 48
/-! words as bit vectors -/
/-! rounds -/
abbrev St8:=Int×Int×Int×Int×Int×Int×Int×Int
abbrev ad (x y : Int) : Int:=IntKind.u32.wrap (x + y)
def t1 (s : St8) (k w : Int) : Int:=match s with
 | (a,b,c,d,e,f,g,h)=>ad (ad (ad (ad h (bits .xor .u32 (bits .xor .u32 (rr e 6) (rr e 11)) (rr e 25))) (bits .xor .u32 (bits .and .u32 e f) (bits .and .u32 (bits .xor .u32 4294967295 e) g))) k) w
def t2 (s : St8) : Int:=match s with
 | (a,b,c,d,e,f,g,h)=>ad (bits .xor .u32 (bits .xor .u32 (rr a 2) (rr a 13)) (rr a 22)) (bits .xor .u32 (bits .xor .u32 (bits .and .u32 a b) (bits .and .u32 a c)) (bits .and .u32 b c))
def rnd (s : St8) (k w : Int) : St8:=match s with
 | (a,b,c,d,e,f,g,h)=>(ad (t1 s k w) (t2 s),a,b,c,ad d (t1 s k w),e,f,g)
def rnds (w : Arr 64) (s : St8) : Nat→St8
 | 0=>s
 | i + 1=>rnd (rnds w s i) (shaK.at i) (w.at i)
def st0 (x : Arr 8) : St8:=(x.at 0,x.at 1,x.at 2,x.at 3,x.at 4,x.at 5,x.at 6,x.at 7)
noncomputable def comp (x : Arr 8) (b : Arr 64) : Arr 8:=match rnds (sched b) (st0 x) 64 with
 | (a,b,c,d,e,f,g,h)=>((((((((zA 8).put 0 (IntKind.u32.wrap ((x.at 0) + a))).put 1 (IntKind.u32.wrap ((x.at 1) + b))).put 2 (IntKind.u32.wrap ((x.at 2) + c))).put 3 (IntKind.u32.wrap ((x.at 3) + d))).put 4 (IntKind.u32.wrap ((x.at 4) + e))).put 5 (IntKind.u32.wrap ((x.at 5) + f))).put 6 (IntKind.u32.wrap ((x.at 6) + g))).put 7 (IntKind.u32.wrap ((x.at 7) + h))
end Go.Lc
end
section
/- SHA-256: padding and sums,the program's and the reference's. -/
namespace Go.Lc
open Go.RowKit
open Go.Av
set_option linter.unusedVariables false

/-! the blocks -/
def blk (y : List Int) (i : Nat) : Arr 64:=arOf 64 (y.drop (64 * i))
noncomputable def hsh (y : List Int) : Nat→Arr 8
 | 0=>shaInitial
 | i + 1=>comp (hsh y i) (blk y i)
end Go.Lc
end
section
/- Replacement: acceptance,the program's and the reference's. -/
namespace Go.Lc
open Go.RowKit
open Go.Av
set_option linter.unusedVariables false

end Go.Lc
end
section
/- Replacement: acceptance,the program's and the reference's are the same. -/
namespace Go.Lc
open Go.RowKit
open Go.Av
set_option linter.unusedVariables false

section
variable {l : List Tapi_Entry} {t : Tapi_Tx} {f : Int}
end
end Go.Lc
end
section
/- Replacement: one answer on both sides. -/
namespace Go.Lc
open Go.RowKit
open Go.Av
set_option linter.unusedVariables false

def monB (v : Int) : Bool:=decide (0≤v) && decide (v≤2100000000000000)
end Go.Lc
end
section
/- Pools and heirs are always something; law 36,acceptance. -/
namespace Go.Lc
open Go.RowKit
open Go.Av
set_option linter.unusedVariables false

section
variable {y : Tapi_Tx×Tlightclientmill_Deck} {pool : List Tapi_Entry} {k : Int} {n : Nat}
end
end Go.Lc
end
section
/- Law 36,acceptance. -/
namespace Go.Lc
open Go.RowKit
open Go.Av
set_option linter.unusedVariables false

end Go.Lc
end
section
/- Law 36: what a transaction that is put into a pool pays. -/
namespace Go.Lc
open Go.RowKit
open Go.Av
set_option linter.unusedVariables false
set_option linter.unusedSimpArgs false
set_option maxRecDepth 100000

theorem items_clone {l : List (List Int)} (h : l.length≤1000000) (hb : ∀ s∈l,s.length≤1000000) : Lreplace_cloneItems l = some l:=by
 unfold Lreplace_cloneItems Lslices_Clone_of__byte_byte;rw [chk_bind (by omega),bind_some'];refine runLoop_to (step:=Lreplace_cloneItems_s1 l) (fun i=>((i : Int),l)) l.length (x:=some l) (fun i hi=>?_) ?_
 ·simp only [Lreplace_cloneItems_s1]
  have:=hb _ (List.getElem_mem hi);rw [if_pos (by omega),inA_bind hi,get_bind hi,Lbytes_Clone,chk_bind (by omega),bind_some',set_same hi rfl,wi_succ hi (by omega)]
 ·simp only [Lreplace_cloneItems_s1]
  rw [if_neg (by omega)];rfl
theorem tx_clone {t : Tapi_Tx} (h : limS t) : Lreplace_cloneTx t = some t:=by
 obtain ⟨h1,h2,h3,h4⟩:=h
 have hf : Lreplace_cloneTx_k1 t.2.2.1 t t.2.1 = some t:=by
  unfold Lreplace_cloneTx_k1;refine runLoop_to (step:=Lreplace_cloneTx_s2 t.2.2.1 t t.2.1) (fun i=>((i : Int),t.2.2.1)) t.2.2.1.length (x:=some t) (fun i hi=>?_) ?_
  ·simp only [Lreplace_cloneTx_s2]
   have:=(h3 _ (List.getElem_mem hi)).2;rw [if_pos (by omega),inA_bind hi,get_bind hi,Lbytes_Clone,chk_bind (by omega),bind_some',set_same hi rfl,wi_succ hi (by omega)]
  ·simp only [Lreplace_cloneTx_s2]
   rw [if_neg (by omega)];rfl
 unfold Lreplace_cloneTx Lslices_Clone_of__api_Input_api_Input Lslices_Clone_of__api_Output_api_Output;rw [chk_bind (by omega),bind_some',chk_bind (by omega),bind_some'];refine runLoop_to (step:=Lreplace_cloneTx_s1 t.2.1 t.2.2.1 t) (fun i=>((i : Int),t.2.1)) t.2.1.length (x:=some t) (fun i hi=>?_) ?_
 ·simp only [Lreplace_cloneTx_s1]
  have h5:=h4 _ (List.getElem_mem hi);rw [if_pos (by omega),inA_bind hi,get_bind hi,items_clone (by omega) (fun s hs=>by have:=h5.2 s hs; omega),bind_some',set_same hi rfl,wi_succ hi (by omega)]
 ·simp only [Lreplace_cloneTx_s1]
  rw [if_neg (by omega),hf]
theorem check_lim {t : Tapi_Tx} (h : checkS t = 0) : fitsS t = true∧limS t:=by
 classical
 unfold checkS at h;by_cases hf : fitsS t = true
 ·exact ⟨hf,fits_lim hf⟩
 ·rw [if_pos hf] at h
  omega
end Go.Lc
end
section
/- Law 36: an inserted transaction pays more than what it replaces. -/
namespace Go.Lc
open Go.RowKit
open Go.Av
set_option linter.unusedVariables false
set_option linter.unusedSimpArgs false
set_option maxRecDepth 100000

end Go.Lc
end
section
/- Law 36: plans at a higher rate. -/
namespace Go.Lc
open Go.RowKit
open Go.Av
set_option linter.unusedVariables false
set_option linter.unusedSimpArgs false
set_option maxRecDepth 100000

theorem rclone_plan {p : Tapi_Plan} (h : limS p.1) (hc : p.2.1.length≤1000) (hs : ∀ c∈p.2.1,c.2.1.2.length≤1000000) : Lreplace_clonePlan p = some p:=by
 unfold Lreplace_clonePlan Lslices_Clone_of__api_Coin_api_Coin;rw [tx_clone h,bind_some',chk_bind (by omega),bind_some'];refine runLoop_to (step:=Lreplace_clonePlan_s1 p.2.1 p.1 p) (fun i=>((i : Int),p.2.1)) p.2.1.length (x:=some p) (fun i hi=>?_) ?_
 ·simp only [Lreplace_clonePlan_s1]
  have:=hs _ (List.getElem_mem hi);rw [if_pos (by omega),inA_bind hi,get_bind hi,Lbytes_Clone,chk_bind (by omega),bind_some',set_same hi rfl,wi_succ hi (by omega)]
 ·simp only [Lreplace_clonePlan_s1]
  rw [if_neg (by omega)];rfl
abbrev noPlan : Tapi_Plan:=((0,[],[],0),[],0,0)
theorem sumI_mem : ∀ {l : List Int},(∀ v∈l,0≤v)→∀ {v : Int},v∈l→v≤sumI l:=by
 intro l h v hv;obtain ⟨i,hi,rfl⟩:=List.getElem_of_mem hv;have h1:=sumI_take (l:=l) (i:=i) hi;have h2:=sumI_mono h (i + 1);have h3:=sumI_pos (l:=l.take i) fun v hv=>h v (List.mem_of_mem_take hv)
 omega
/-- a plan whose coins are few -/
def CoB (p : Tapi_Plan) : Prop:=p.2.1.length≤1000∧∀ c∈p.2.1,c.2.1.2.length≤1000000
/-- the fee that is asked for -/
def newFee (f a b : Int) : Int:=if (if a < IntKind.i64.wrap (f + b) then IntKind.i64.wrap (f + b) else a) < IntKind.i64.wrap (f + 1) then IntKind.i64.wrap (f + 1) else (if a < IntKind.i64.wrap (f + b) then IntKind.i64.wrap (f + b) else a)
theorem w64 (a : Int) : -9223372036854775808≤IntKind.i64.wrap a∧IntKind.i64.wrap a≤9223372036854775807:=by rw [IntKind.wrap_i64]; omega
theorem fee_bnd {w r v : Int} (h : Lbuild_Fee w r = some v) : 0≤v∧v≤83887080:=by
 unfold Lbuild_Fee at h;split at h
 ·injection h with h
  omega
 ·injection h with h
  have h1 : 0≤r * w:=Int.mul_nonneg (by omega) (by omega);have h2 : r * w≤1048576 * 80000:=Int.mul_le_mul (by omega) (by omega) (by omega) (by omega);rw [wi (r * w) (by omega),wi (r * w + 999) (by omega),Int.tdiv_eq_ediv_of_nonneg (by omega),wi _ (by omega)] at h;omega
theorem bump_out {p : Tapi_Plan} (hc : CoB p) (w r : Int) : (Lreplace_Bump p w r = Lref36_Bump p w r)∧∃ q c,Lreplace_Bump p w r = some (q,c)∧(c≠0→q = noPlan∧(planV p = true→0≤r→r≤1048576→weightS p.1≤w→w≤80000→c = 320∨c = 360))∧(c = 0→∃ k a b x,∃ hk : k < p.1.2.2.1.length,planV p = true∧sigS p.1 = true∧p.2.2.2 = (k : Int)∧Lbuild_Fee w r = some a∧Lbuild_Fee w 100 = some b∧p.1.2.2.1[k] = x ∧
  ((300≤IntKind.i64.wrap (x.1 - IntKind.i64.wrap (newFee p.2.2.1 a b - p.2.2.1))∧newFee p.2.2.1 a b≤2100000000000000∧q = ((p.1.1,p.1.2.1,p.1.2.2.1.set k (IntKind.i64.wrap (x.1 - IntKind.i64.wrap (newFee p.2.2.1 a b - p.2.2.1)),x.2),p.1.2.2.2),p.2.1,newFee p.2.2.1 a b,p.2.2.2)) ∨
   (¬ x.1 < IntKind.i64.wrap (newFee p.2.2.1 a b - p.2.2.1)∧p.1.2.2.1.length≠1∧IntKind.i64.wrap (p.2.2.1 + x.1)≤2100000000000000∧q = ((p.1.1,p.1.2.1,p.1.2.2.1.take k++p.1.2.2.1.drop (k + 1),p.1.2.2.2),p.2.1,IntKind.i64.wrap (p.2.2.1 + x.1),-1)))):=by
 classical
 obtain ⟨v1,v2⟩:=planV_eq p;unfold Lreplace_Bump Lref36_Bump;rw [v1,v2,bind_some',bind_some'];by_cases hv : planV p = true
 ·obtain ⟨h1,h2,h3,h4,h5,h6⟩:=valid_inv (v1.trans (by rw [hv]))
  have hlim : limS p.1:=(check_lim h1).2;obtain ⟨l1,l2,l3,l4⟩:=hlim;have hnv : ¬ ¬ planV p = true:=by simp [hv]
  rw [if_neg hnv,if_neg hnv];rw [tx_weight,rtx_weight];obtain ⟨z,hz⟩ : ∃ z,(if (r < 0∨1048576 < r) then some false else (some (weightS p.1)).bind fun y2=>some (decide (w < y2))) = some z:=by split <;> exact ⟨_,rfl⟩
  rw [hz,bind_some',bind_some'];by_cases hr : (((r < 0∨1048576 < r)∨z = true)∨80000 < w)
  ·rw [if_pos hr,if_pos hr]
   refine ⟨rfl,_,_,rfl,fun _=>⟨rfl,fun _ r1 r2 r3 r4=>?_⟩,fun h=>by cases h⟩;rw [if_neg (by omega),bind_some'] at hz;injection hz with hz;have : z = false:=by rw [← hz]; simp; omega
   rw [this] at hr;rcases hr with (hr | hr) | hr
   ·omega
   ·cases hr
   ·omega
  ·rw [if_neg hr,if_neg hr,sig_eq (by omega),rsig_eq (by omega),bind_some',bind_some']
   by_cases hs : sigS p.1 = true
   ·have hns : ¬ ¬ sigS p.1 = true:=by simp [hs]
    rw [if_neg hns,if_neg hns];by_cases hch : p.2.2.2 < 0
    ·rw [if_pos hch,if_pos hch]
     exact ⟨rfl,_,_,rfl,fun _=>⟨rfl,fun _ _ _ _ _=>.inl rfl⟩,fun h=>by cases h⟩
    ·rw [if_neg hch,if_neg hch]
     obtain ⟨a,ha⟩:=fee_tot w r;obtain ⟨b,hb⟩:=fee_tot w 100;obtain ⟨k,hk⟩:=Int.eq_ofNat_of_zero_le (a:=p.2.2.2) (by omega);have hkl : k < p.1.2.2.1.length:=by omega
     have hm : ∀ f,Lref36_money f = some (monB f):=fun _=>rfl
     have hmon : ∀ f,0≤f→(monB f = true↔¬ 2100000000000000 < f):=by
      intro f hf;simp [monB,hf]
     rw [fee_eq,fee_eq,ha,hb,bind_some',bind_some',bind_some',bind_some',rclone_plan ⟨l1,l2,l3,l4⟩ hc.1 hc.2,bind_some',chk_bind (by omega),chk_bind (by have:=hc.1; omega),hk,idx_bind hkl,inA_bind hkl,get_bind hkl,inA_bind hkl,get_bind hkl];obtain ⟨f1,f2,f3,f4,f5⟩:=fee_inv h6
     have hf0 : 0≤p.2.2.1∧p.2.2.1≤2100000000000000:=by
      have:=sumI_pos (l:=valsS p.1) (vals_pos ⟨l1,l2,l3,l4⟩);unfold sumBad at f3;omega
     obtain ⟨nf,hnf⟩ : ∃ nf,newFee p.2.2.1 a b = nf:=⟨_,rfl⟩
     have hnf' := hnf;unfold newFee at hnf';rw [hnf'];have hx0:=l3 _ (List.getElem_mem hkl)
     have hge : p.2.2.1 + 1≤nf:=by
      rw [← hnf',wi (p.2.2.1 + 1) (by omega)];split <;> omega
     by_cases c1 : 300≤IntKind.i64.wrap ((p.1.2.2.1[k]).1 - IntKind.i64.wrap (nf - p.2.2.1))
     ·rw [if_pos c1,if_pos c1]
      unfold Lreplace_Bump_k1 Lref36_Bump_k1;rw [hm,bind_some'];have hmn:=hmon nf (by omega);by_cases c2 : 2100000000000000 < nf
      ·have c2' : ¬ monB nf = true:=fun h=>hmn.1 h c2
       exfalso
       have h7 : ((p.1.2.2.1[k]).1)∈valsS p.1:=List.mem_map.2 ⟨_,List.getElem_mem hkl,rfl⟩;have h8:=sumI_mem (vals_pos ⟨l1,l2,l3,l4⟩) h7
       have hnb : nf≤9223372036854775807:=by
        rw [← hnf'];have hw64 : ∀ a : Int,IntKind.i64.wrap a≤9223372036854775807:=fun a=>(w64 a).2
        have ha64 : a≤9223372036854775807:=by have:=(fee_bnd ((fee_eq w r).trans ha)).2; omega
        have q1:=hw64 (p.2.2.1 + b);have q2:=hw64 (p.2.2.1 + 1);split
        ·omega
        ·split <;> omega
       unfold sumBad at f3;rw [wi (nf - p.2.2.1) (by omega),wi _ (by omega)] at c1;omega
      ·have c2' : ¬ ¬ monB nf = true:=fun h=>h (hmn.2 c2)
       rw [if_neg c2,if_neg c2'];refine ⟨rfl,_,_,rfl,fun h=>(h rfl).elim,fun _=>⟨k,a,b,_,hkl,hv,hs,rfl,rfl,rfl,rfl,.inl ?_⟩⟩;rw [hnf];exact ⟨c1,by omega,rfl⟩
     ·rw [if_neg c1,if_neg c1]
      by_cases c3 : ((p.1.2.2.1[k]).1 < IntKind.i64.wrap (nf - p.2.2.1)∨(p.1.2.2.1.length : Int) = 1)
      ·rw [if_pos c3,if_pos c3]
       exact ⟨rfl,_,_,rfl,fun _=>⟨rfl,fun _ _ _ _ _=>.inl rfl⟩,fun h=>by cases h⟩
      ·rw [if_neg c3,if_neg c3]
       have hk1 : IntKind.i64.wrap ((k : Int) + 1) = ((k + 1 : Nat) : Int):=wi_succ hkl (by omega);unfold Lslices_Delete_of__api_Output_api_Output;rw [hk1,chk_bind (by omega),bind_some',chk_bind (by omega),chk_bind (by simp; omega),chk_bind (by omega),chk_bind (by simp; omega)];simp only [Int.toNat_natCast];unfold Lreplace_Bump_k1 Lref36_Bump_k1;rw [hm,bind_some']
       have hv64 : (p.1.2.2.1[k]).1≤2100000000000000:=by
        have h7 : ((p.1.2.2.1[k]).1)∈valsS p.1:=List.mem_map.2 ⟨_,List.getElem_mem hkl,rfl⟩;have h8:=sumI_mem (vals_pos ⟨l1,l2,l3,l4⟩) h7;unfold sumBad at f3;omega
       have hmn:=hmon (IntKind.i64.wrap (p.2.2.1 + (p.1.2.2.1[k]).1)) (by rw [wi _ (by omega)]; omega);by_cases c2 : 2100000000000000 < IntKind.i64.wrap (p.2.2.1 + (p.1.2.2.1[k]).1)
       ·have c2' : ¬ monB (IntKind.i64.wrap (p.2.2.1 + (p.1.2.2.1[k]).1)) = true:=fun h=>hmn.1 h c2
        exfalso
        have h7 : ((p.1.2.2.1[k]).1)∈valsS p.1:=List.mem_map.2 ⟨_,List.getElem_mem hkl,rfl⟩;have h8:=sumI_mem (vals_pos ⟨l1,l2,l3,l4⟩) h7;rw [wi _ (by omega)] at c2;unfold sumBad at f3;omega
       ·have c2' : ¬ ¬ monB (IntKind.i64.wrap (p.2.2.1 + (p.1.2.2.1[k]).1)) = true:=fun h=>h (hmn.2 c2)
        rw [if_neg c2,if_neg c2'];refine ⟨rfl,_,_,rfl,fun h=>(h rfl).elim,fun _=>⟨k,a,b,_,hkl,hv,hs,rfl,rfl,rfl,rfl,.inr ?_⟩⟩;rw [hnf];exact ⟨fun h=>c3 (.inl h),fun h=>c3 (.inr (by rw [h]; rfl)),by omega,rfl⟩
   ·rw [if_pos hs,if_pos hs]
    exact ⟨rfl,_,_,rfl,fun _=>⟨rfl,fun _ _ _ _ _=>.inr rfl⟩,fun h=>by cases h⟩
 ·rw [if_pos hv,if_pos hv]
  exact ⟨rfl,_,_,rfl,fun _=>⟨rfl,fun h=>(hv h).elim⟩,fun h=>by cases h⟩
theorem noPlanB : PlanB noPlan:=⟨by simp,by simp,by simp,by simp,by simp,by simp⟩
theorem bump_both {p : Tapi_Plan} (hc : CoB p) (w r : Int) : ∃ q c,Lreplace_Bump p w r = some (q,c)∧Lref36_Bump p w r = some (q,c)∧PlanB q:=by
 obtain ⟨h1,q,c,h2,h3,h4⟩:=bump_out hc w r;refine ⟨q,c,h2,h1 ▸ h2,?_⟩;by_cases h0 : c = 0
 ·obtain ⟨k,a,b,x,hk,hv,hs,g1,g2,g3,g4,g5⟩:=h4 h0
  obtain ⟨e1,e2,e3,e4,e5,e6⟩:=valid_inv ((planV_eq p).1.trans (by rw [hv]));obtain ⟨l1,l2,l3,l4⟩:=(check_lim e1).2;rcases g5 with ⟨_,_,rfl⟩ | ⟨_,_,_,rfl⟩
  ·refine ⟨by dsimp only; omega,e3,by simp; omega,fun o ho=>?_,hc.1,hc.2⟩
   rcases List.mem_or_eq_of_mem_set ho with ho | rfl
   ·have:=(l3 o ho).2; omega
   ·have:=(l3 _ (List.getElem_mem hk)).2
    rw [g4] at this;dsimp only;omega
  ·refine ⟨by dsimp only; omega,e3,by simp; omega,fun o ho=>?_,hc.1,hc.2⟩
   have ho' : o∈p.1.2.2.1:=by
    rcases List.mem_append.1 ho with ho | ho
    ·exact List.mem_of_mem_take ho
    ·exact List.mem_of_mem_drop ho
   have:=(l3 o ho').2; omega
 ·rw [(h3 h0).1]; exact noPlanB
theorem rsame_self {p : Tapi_Plan} (h : PlanB p) : Lref34_Same p p = some true:=by
 have:=rsame_fee h p.2.2.1;simpa [pf] using this
theorem mem_one {α : Type} {P : α→Prop} {l : List α} {a : α} (h : ∀ x∈l,P x) (ha : P a) : ∀ x∈l++[a],P x:=by
 intro x hx;rcases List.mem_append.1 hx with hx | hx
 ·exact h x hx
 ·rw [List.mem_singleton.1 hx]; exact ha
theorem plan_cob {d : Tlightclientmill_Deck} (h : DeckOk d) {l : List (List Int)} (hl : l.length≤2) (hs : ∀ s∈l,s.length≤1000000) : Tot (Lmill_Plan d l) fun r=>CoB r.1∧r.1.1.2.2.1.length = 2∧DeckOk r.2:=by
 unfold Lmill_Plan;refine (next_tot h (by omega) (by omega)).bind fun y1 h1=>?_
 refine tot_loop (I:=fun (n : Nat) (s : Int×Int×Tlightclientmill_Deck×(List Tapi_Input)×(List Tapi_Coin))=>s.2.1 + (n : Int) = l.length∧0≤s.2.1∧DeckOk s.2.2.1∧(s.2.2.2.1.length : Int) = s.2.1∧(s.2.2.2.2.length : Int) = s.2.1∧∀ c∈s.2.2.2.2,c.2.1.2.length≤1000000) (n:=l.length) ?_ ⟨by simp,by simp,h1.2,by simp,by simp,by simp⟩;rintro n ⟨a,k,d1,ins,cs⟩ ⟨hk,hk0,hd,hi,hl2,hcs⟩
 dsimp only at hk hk0 hd hi hl2 hcs;simp only [Lmill_Plan_s1];refine tot_ite (fun hc=>?_) (fun hc=>?_)
 ·refine tot_idx hk0 hc fun x hx=>?_
  refine tot_chk (by omega) ?_;refine (next_tot hd (by omega) (by omega)).bind fun y2 h2=>?_
  refine tot_inA (by omega) (by omega) fun j _ hj=>tot_get hj fun x2 _=>?_
  refine tot_chk (by omega) (tot_some ⟨n - 1,by omega,?_,?_,h2.2,?_,?_,mem_one hcs (hs x hx)⟩)
  ·dsimp only
   rw [wi (k + 1) (by omega)];omega
  ·dsimp only
   rw [wi (k + 1) (by omega)];omega
  ·dsimp only
   rw [wi (k + 1) (by omega)];simp only [List.length_append,List.length_cons,List.length_nil];omega
  ·dsimp only
   rw [wi (k + 1) (by omega)];simp only [List.length_append,List.length_cons,List.length_nil];omega
 ·refine Tot.out ?_
  unfold Lmill_Plan_k1;refine (next_tot hd (by omega) (by omega)).bind fun y2 h2=>?_
  rw [script_eq,bind_some',script_eq,bind_some'];refine (next_tot h2.2 (by omega) (by omega)).bind fun y3 h3=>?_
  have hk2 : ∀ a b c d',c.length = 2→DeckOk d'→Tot (Lmill_Plan_k2 ins y1 cs a b c d') fun r=>CoB r.1∧r.1.1.2.2.1.length = 2∧DeckOk r.2:=by
   intro a b c d' h5 h6;unfold Lmill_Plan_k2;exact tot_some ⟨⟨by dsimp only; omega,hcs⟩,h5,h6⟩
  exact tot_ite (fun _=>hk2 _ _ _ _ rfl h3.2) fun _=>tot_ite (fun _=>(next_tot h3.2 (by omega) (by omega)).bind fun y4 h4=>hk2 _ _ _ _ rfl h4.2) fun _=>hk2 _ _ _ _ rfl h3.2
theorem mod_tot (a : Int) {n : Int} (hn : 0 < n) (hn2 : n≤4611686018427387904) : Tot (Lmill_Mod a n) fun r=>0≤r∧r < n:=by
 refine ⟨_,mod_eq a (by omega) hn2,?_⟩;exact modS_in a (by omega)
theorem bumps_k1 {y : Tapi_Plan×Tlightclientmill_Deck} (hy : CoB y.1) (a1 a2 : Int) (o : List Tapi_Output) (f c : Int) : Llaw36_ReplaceBumps_k1 y a1 a2 o f c = some true:=by
 unfold Llaw36_ReplaceBumps_k1;rw [rtx_weight,bind_some'];obtain ⟨m1,e1,_⟩:=mod_tot a1 (n:=400) (by omega) (by omega);obtain ⟨m2,e2,_⟩:=mod_tot a2 (n:=9000) (by omega) (by omega);obtain ⟨m3,e3,_⟩:=mod_tot a1 (n:=2) (by omega) (by omega);obtain ⟨m4,e4,_⟩:=mod_tot a2 (n:=900000) (by omega) (by omega);rw [e1,e2,e3,e4,bind_some',bind_some',bind_some',bind_some'];refine loop_all 3 (by omega) (fun i hi=>?_) ?_
 ·simp only [Llaw36_ReplaceBumps_s1]
  rw [if_pos (by omega),inA_bind hi,get_bind (by simpa using hi)];obtain ⟨q,e,g1,g2,g3⟩:=bump_both (p:=((y.1.1.1,y.1.1.2.1,o,y.1.1.2.2.2),y.1.2.1,f,c)) hy (([(⟨[a1,a2],rfl⟩ : Arr 2),(⟨[IntKind.i64.wrap (weightS (y.1.1.1,y.1.1.2.1,o,y.1.1.2.2.2) + m1),m2],rfl⟩ : Arr 2),(⟨[IntKind.i64.wrap (weightS (y.1.1.1,y.1.1.2.1,o,y.1.1.2.2.2) - m3),m4],rfl⟩ : Arr 2)][i]'(by simpa using hi)).at 0) (([(⟨[a1,a2],rfl⟩ : Arr 2),(⟨[IntKind.i64.wrap (weightS (y.1.1.1,y.1.1.2.1,o,y.1.1.2.2.2) + m1),m2],rfl⟩ : Arr 2),(⟨[IntKind.i64.wrap (weightS (y.1.1.1,y.1.1.2.1,o,y.1.1.2.2.2) - m3),m4],rfl⟩ : Arr 2)][i]'(by simpa using hi)).at 1);rw [g1,g2,bind_some',bind_some',if_neg (by simp),rsame_self g3,bind_some',bind_some',if_neg (by simp)]
 ·simp only [Llaw36_ReplaceBumps_s1]
  rw [if_neg (by omega)];rfl
theorem replaceBumps (a0 : List Int) (a1 a2 : Int) (h : a0.length≤9223372036854775807) : Llaw36_ReplaceBumps a0 a1 a2 = some true:=by
 unfold Llaw36_ReplaceBumps;rw [sane36,bind_some',if_neg (by simp)];unfold Lmill_New;rw [bind_some',script_eq,bind_some',script_eq,bind_some'];have hd : DeckOk (a0,0):=⟨by simp,by simp,h⟩
 obtain ⟨y5,e5,g5,g6⟩:=next_tot hd (n:=2) (by omega) (by omega);rw [e5,bind_some',wi (1 + y5.1) (by omega),chk_bind (by simp; omega)]
 obtain ⟨y7,e7,g7,g8,g9⟩:=plan_cob g6 (l:=([[1,1,IntKind.u8.wrap (1 + (0 : Int).tmod 6),5],[1,1,IntKind.u8.wrap (1 + (3 : Int).tmod 6),5]] : List (List Int)).take (1 + y5.1).toNat) (by simp; omega) (fun s hs=>by
  have:=List.mem_of_mem_take hs;simp at this
  rcases this with rfl | rfl <;> simp)
 rw [e7,bind_some'];obtain ⟨y8,e8,g10,g11⟩:=next_tot g9 (n:=5) (by omega) (by omega);rw [e8,bind_some'];split
 ·rw [chk_bind (by omega),bumps_k1 g7]
 ·rw [bumps_k1 g7]
end Go.Lc
end
