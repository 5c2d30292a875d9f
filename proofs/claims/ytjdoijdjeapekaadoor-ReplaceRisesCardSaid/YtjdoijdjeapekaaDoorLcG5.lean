import Derived.Test.YtjdoijdjeapekaaDoorLcG4
import Derived.Test.YtjdoijdjeapekaaDoorLcG1
import Derived.KernelRfl
import Derived.Test.YtjdoijdjeapekaaDoorLcG3
section
/- SHA-256: the program's rounds and the reference's are the same. -/
namespace Go.Lc
open Go.RowKit
open Go.Av
set_option linter.unusedVariables false

def rot (x n : Int) : Int:=bits .or .u32 (IntKind.u32.wrap (x * (2 ^ (min (bits .and .u64 (IntKind.u64.wrap n) 31).toNat 32)))) (x.fdiv (2 ^ (min (IntKind.u64.wrap (32 - (bits .and .u64 (IntKind.u64.wrap n) 31))).toNat 32)))
def rr (x n : Int) : Int:=rot x (IntKind.i64.wrap (-n))
/-! the words of a block -/
def wd (b : Arr 64) (i : Nat) : Nat→Int
 | 0=>0
 | j + 1=>bits .or .u32 (IntKind.u32.wrap (wd b i j * 256)) (IntKind.u32.wrap (b.at (4 * i + j)))
def sch1 (b : Arr 64) : Nat→Arr 64
 | 0=>zA 64
 | i + 1=>(sch1 b i).put i (wd b i 4)
def nxtW (w : Arr 64) (i : Nat) : Int:=IntKind.u32.wrap ((IntKind.u32.wrap ((IntKind.u32.wrap ((w.at (i - 16)) + (bits .xor .u32 (bits .xor .u32 (rr (w.at (i - 15)) 7) (rr (w.at (i - 15)) 18)) ((w.at (i - 15)).fdiv 8)))) + (w.at (i - 7)))) + (bits .xor .u32 (bits .xor .u32 (rr (w.at (i - 2)) 17) (rr (w.at (i - 2)) 19)) ((w.at (i - 2)).fdiv 1024)))
def sch2 (w : Arr 64) : Nat→Arr 64
 | 0=>w
 | k + 1=>(sch2 w k).put (16 + k) (nxtW (sch2 w k) (16 + k))
def sched (b : Arr 64) : Arr 64:=sch2 (sch1 b 16) 48
/-! words as bit vectors -/
/-! rounds -/
abbrev St8:=Int×Int×Int×Int×Int×Int×Int×Int
abbrev ad (x y : Int) : Int:=IntKind.u32.wrap (x + y)
def t1 (s : St8) (k w : Int) : Int:=match s with
 | (a,b,c,d,e,f,g,h)=>ad (ad (ad (ad h (bits .xor .u32 (bits .xor .u32 (rr e 6) (rr e 11)) (rr e 25))) (bits .xor .u32 (bits .and .u32 e f) (bits .and .u32 (bits .xor .u32 4294967295 e) g))) k) w
def t2 (s : St8) : Int:=match s with
 | (a,b,c,d,e,f,g,h)=>ad (bits .xor .u32 (bits .xor .u32 (rr a 2) (rr a 13)) (rr a 22)) (bits .xor .u32 (bits .xor .u32 (bits .and .u32 a b) (bits .and .u32 a c)) (bits .and .u32 b c))
def rnd (s : St8) (k w : Int) : St8:=match s with
 | (a,b,c,d,e,f,g,h)=>(ad (t1 s k w) (t2 s),a,b,c,ad d (t1 s k w),e,f,g)
def rnds (w : Arr 64) (s : St8) : Nat→St8
 | 0=>s
 | i + 1=>rnd (rnds w s i) (shaK.at i) (w.at i)
def st0 (x : Arr 8) : St8:=(x.at 0,x.at 1,x.at 2,x.at 3,x.at 4,x.at 5,x.at 6,x.at 7)
noncomputable def comp (x : Arr 8) (b : Arr 64) : Arr 8:=match rnds (sched b) (st0 x) 64 with
 | (a,b,c,d,e,f,g,h)=>((((((((zA 8).put 0 (IntKind.u32.wrap ((x.at 0) + a))).put 1 (IntKind.u32.wrap ((x.at 1) + b))).put 2 (IntKind.u32.wrap ((x.at 2) + c))).put 3 (IntKind.u32.wrap ((x.at 3) + d))).put 4 (IntKind.u32.wrap ((x.at 4) + e))).put 5 (IntKind.u32.wrap ((x.at 5) + f))).put 6 (IntKind.u32.wrap ((x.at 6) + g))).put 7 (IntKind.u32.wrap ((x.at 7) + h))
end Go.Lc
end
section
/- SHA-256: padding and sums,the program's and the reference's. -/
namespace Go.Lc
open Go.RowKit
open Go.Av
set_option linter.unusedVariables false

/-! the blocks -/
def blk (y : List Int) (i : Nat) : Arr 64:=arOf 64 (y.drop (64 * i))
noncomputable def hsh (y : List Int) : Nat→Arr 8
 | 0=>shaInitial
 | i + 1=>comp (hsh y i) (blk y i)
end Go.Lc
end
section
/- Replacement: acceptance,the program's and the reference's. -/
namespace Go.Lc
open Go.RowKit
open Go.Av
set_option linter.unusedVariables false

end Go.Lc
end
section
/- Replacement: acceptance,the program's and the reference's are the same. -/
namespace Go.Lc
open Go.RowKit
open Go.Av
set_option linter.unusedVariables false

section
variable {l : List Tapi_Entry} {t : Tapi_Tx} {f : Int}
end
end Go.Lc
end
section
/- Replacement: one answer on both sides. -/
namespace Go.Lc
open Go.RowKit
open Go.Av
set_option linter.unusedVariables false

def monB (v : Int) : Bool:=decide (0≤v) && decide (v≤2100000000000000)
end Go.Lc
end
section
/- Pools and heirs are always something; law 36,acceptance. -/
namespace Go.Lc
open Go.RowKit
open Go.Av
set_option linter.unusedVariables false

section
variable {y : Tapi_Tx×Tlightclientmill_Deck} {pool : List Tapi_Entry} {k : Int} {n : Nat}
end
end Go.Lc
end
section
/- Law 36,acceptance. -/
namespace Go.Lc
open Go.RowKit
open Go.Av
set_option linter.unusedVariables false

end Go.Lc
end
section
/- Law 36: what a transaction that is put into a pool pays. -/
namespace Go.Lc
open Go.RowKit
open Go.Av
set_option linter.unusedVariables false
set_option linter.unusedSimpArgs false
set_option maxRecDepth 100000

theorem items_clone {l : List (List Int)} (h : l.length≤1000000) (hb : ∀ s∈l,s.length≤1000000) : Lreplace_cloneItems l = some l:=by
 unfold Lreplace_cloneItems Lslices_Clone_of__byte_byte;rw [chk_bind (by omega),bind_some'];refine runLoop_to (step:=Lreplace_cloneItems_s1 l) (fun i=>((i : Int),l)) l.length (x:=some l) (fun i hi=>?_) ?_
 ·simp only [Lreplace_cloneItems_s1]
  have:=hb _ (List.getElem_mem hi);rw [if_pos (by omega),inA_bind hi,get_bind hi,Lbytes_Clone,chk_bind (by omega),bind_some',set_same hi rfl,wi_succ hi (by omega)]
 ·simp only [Lreplace_cloneItems_s1]
  rw [if_neg (by omega)];rfl
theorem tx_clone {t : Tapi_Tx} (h : limS t) : Lreplace_cloneTx t = some t:=by
 obtain ⟨h1,h2,h3,h4⟩:=h
 have hf : Lreplace_cloneTx_k1 t.2.2.1 t t.2.1 = some t:=by
  unfold Lreplace_cloneTx_k1;refine runLoop_to (step:=Lreplace_cloneTx_s2 t.2.2.1 t t.2.1) (fun i=>((i : Int),t.2.2.1)) t.2.2.1.length (x:=some t) (fun i hi=>?_) ?_
  ·simp only [Lreplace_cloneTx_s2]
   have:=(h3 _ (List.getElem_mem hi)).2;rw [if_pos (by omega),inA_bind hi,get_bind hi,Lbytes_Clone,chk_bind (by omega),bind_some',set_same hi rfl,wi_succ hi (by omega)]
  ·simp only [Lreplace_cloneTx_s2]
   rw [if_neg (by omega)];rfl
 unfold Lreplace_cloneTx Lslices_Clone_of__api_Input_api_Input Lslices_Clone_of__api_Output_api_Output;rw [chk_bind (by omega),bind_some',chk_bind (by omega),bind_some'];refine runLoop_to (step:=Lreplace_cloneTx_s1 t.2.1 t.2.2.1 t) (fun i=>((i : Int),t.2.1)) t.2.1.length (x:=some t) (fun i hi=>?_) ?_
 ·simp only [Lreplace_cloneTx_s1]
  have h5:=h4 _ (List.getElem_mem hi);rw [if_pos (by omega),inA_bind hi,get_bind hi,items_clone (by omega) (fun s hs=>by have:=h5.2 s hs; omega),bind_some',set_same hi rfl,wi_succ hi (by omega)]
 ·simp only [Lreplace_cloneTx_s1]
  rw [if_neg (by omega),hf]
theorem check_lim {t : Tapi_Tx} (h : checkS t = 0) : fitsS t = true∧limS t:=by
 classical
 unfold checkS at h;by_cases hf : fitsS t = true
 ·exact ⟨hf,fits_lim hf⟩
 ·rw [if_pos hf] at h
  omega
end Go.Lc
end
section
/- Law 36: an inserted transaction pays more than what it replaces. -/
namespace Go.Lc
open Go.RowKit
open Go.Av
set_option linter.unusedVariables false
set_option linter.unusedSimpArgs false
set_option maxRecDepth 100000

end Go.Lc
end
section
/- Law 36: plans at a higher rate. -/
namespace Go.Lc
open Go.RowKit
open Go.Av
set_option linter.unusedVariables false
set_option linter.unusedSimpArgs false
set_option maxRecDepth 100000

theorem rclone_plan {p : Tapi_Plan} (h : limS p.1) (hc : p.2.1.length≤1000) (hs : ∀ c∈p.2.1,c.2.1.2.length≤1000000) : Lreplace_clonePlan p = some p:=by
 unfold Lreplace_clonePlan Lslices_Clone_of__api_Coin_api_Coin;rw [tx_clone h,bind_some',chk_bind (by omega),bind_some'];refine runLoop_to (step:=Lreplace_clonePlan_s1 p.2.1 p.1 p) (fun i=>((i : Int),p.2.1)) p.2.1.length (x:=some p) (fun i hi=>?_) ?_
 ·simp only [Lreplace_clonePlan_s1]
  have:=hs _ (List.getElem_mem hi);rw [if_pos (by omega),inA_bind hi,get_bind hi,Lbytes_Clone,chk_bind (by omega),bind_some',set_same hi rfl,wi_succ hi (by omega)]
 ·simp only [Lreplace_clonePlan_s1]
  rw [if_neg (by omega)];rfl
abbrev noPlan : Tapi_Plan:=((0,[],[],0),[],0,0)
theorem sumI_mem : ∀ {l : List Int},(∀ v∈l,0≤v)→∀ {v : Int},v∈l→v≤sumI l:=by
 intro l h v hv;obtain ⟨i,hi,rfl⟩:=List.getElem_of_mem hv;have h1:=sumI_take (l:=l) (i:=i) hi;have h2:=sumI_mono h (i + 1);have h3:=sumI_pos (l:=l.take i) fun v hv=>h v (List.mem_of_mem_take hv)
 omega
/-- a plan whose coins are few -/
def CoB (p : Tapi_Plan) : Prop:=p.2.1.length≤1000∧∀ c∈p.2.1,c.2.1.2.length≤1000000
/-- the fee that is asked for -/
def newFee (f a b : Int) : Int:=if (if a < IntKind.i64.wrap (f + b) then IntKind.i64.wrap (f + b) else a) < IntKind.i64.wrap (f + 1) then IntKind.i64.wrap (f + 1) else (if a < IntKind.i64.wrap (f + b) then IntKind.i64.wrap (f + b) else a)
theorem w64 (a : Int) : -9223372036854775808≤IntKind.i64.wrap a∧IntKind.i64.wrap a≤9223372036854775807:=by rw [IntKind.wrap_i64]; omega
theorem fee_bnd {w r v : Int} (h : Lbuild_Fee w r = some v) : 0≤v∧v≤83887080:=by
 unfold Lbuild_Fee at h;split at h
 ·injection h with h
  omega
 ·injection h with h
  have h1 : 0≤r * w:=Int.mul_nonneg (by omega) (by omega);have h2 : r * w≤1048576 * 80000:=Int.mul_le_mul (by omega) (by omega) (by omega) (by omega);rw [wi (r * w) (by omega),wi (r * w + 999) (by omega),Int.tdiv_eq_ediv_of_nonneg (by omega),wi _ (by omega)] at h;omega
theorem bump_out {p : Tapi_Plan} (hc : CoB p) (w r : Int) : (Lreplace_Bump p w r = Lref36_Bump p w r)∧∃ q c,Lreplace_Bump p w r = some (q,c)∧(c≠0→q = noPlan∧(planV p = true→0≤r→r≤1048576→weightS p.1≤w→w≤80000→c = 320∨c = 360))∧(c = 0→∃ k a b x,∃ hk : k < p.1.2.2.1.length,planV p = true∧sigS p.1 = true∧p.2.2.2 = (k : Int)∧Lbuild_Fee w r = some a∧Lbuild_Fee w 100 = some b∧p.1.2.2.1[k] = x ∧
  ((300≤IntKind.i64.wrap (x.1 - IntKind.i64.wrap (newFee p.2.2.1 a b - p.2.2.1))∧newFee p.2.2.1 a b≤2100000000000000∧q = ((p.1.1,p.1.2.1,p.1.2.2.1.set k (IntKind.i64.wrap (x.1 - IntKind.i64.wrap (newFee p.2.2.1 a b - p.2.2.1)),x.2),p.1.2.2.2),p.2.1,newFee p.2.2.1 a b,p.2.2.2)) ∨
   (¬ x.1 < IntKind.i64.wrap (newFee p.2.2.1 a b - p.2.2.1)∧p.1.2.2.1.length≠1∧IntKind.i64.wrap (p.2.2.1 + x.1)≤2100000000000000∧q = ((p.1.1,p.1.2.1,p.1.2.2.1.take k++p.1.2.2.1.drop (k + 1),p.1.2.2.2),p.2.1,IntKind.i64.wrap (p.2.2.1 + x.1),-1)))):=by
 classical
 obtain ⟨v1,v2⟩:=planV_eq p;unfold Lreplace_Bump Lref36_Bump;rw [v1,v2,bind_some',bind_some'];by_cases hv : planV p = true
 ·obtain ⟨h1,h2,h3,h4,h5,h6⟩:=valid_inv (v1.trans (by rw [hv]))
  have hlim : limS p.1:=(check_lim h1).2;obtain ⟨l1,l2,l3,l4⟩:=hlim;have hnv : ¬ ¬ planV p = true:=by simp [hv]
  rw [if_neg hnv,if_neg hnv];rw [tx_weight,rtx_weight];obtain ⟨z,hz⟩ : ∃ z,(if (r < 0∨1048576 < r) then some false else (some (weightS p.1)).bind fun y2=>some (decide (w < y2))) = some z:=by split <;> exact ⟨_,rfl⟩
  rw [hz,bind_some',bind_some'];by_cases hr : (((r < 0∨1048576 < r)∨z = true)∨80000 < w)
  ·rw [if_pos hr,if_pos hr]
   refine ⟨rfl,_,_,rfl,fun _=>⟨rfl,fun _ r1 r2 r3 r4=>?_⟩,fun h=>by cases h⟩;rw [if_neg (by omega),bind_some'] at hz;injection hz with hz;have : z = false:=by rw [← hz]; simp; omega
   rw [this] at hr;rcases hr with (hr | hr) | hr
   ·omega
   ·cases hr
   ·omega
  ·rw [if_neg hr,if_neg hr,sig_eq (by omega),rsig_eq (by omega),bind_some',bind_some']
   by_cases hs : sigS p.1 = true
   ·have hns : ¬ ¬ sigS p.1 = true:=by simp [hs]
    rw [if_neg hns,if_neg hns];by_cases hch : p.2.2.2 < 0
    ·rw [if_pos hch,if_pos hch]
     exact ⟨rfl,_,_,rfl,fun _=>⟨rfl,fun _ _ _ _ _=>.inl rfl⟩,fun h=>by cases h⟩
    ·rw [if_neg hch,if_neg hch]
     obtain ⟨a,ha⟩:=fee_tot w r;obtain ⟨b,hb⟩:=fee_tot w 100;obtain ⟨k,hk⟩:=Int.eq_ofNat_of_zero_le (a:=p.2.2.2) (by omega);have hkl : k < p.1.2.2.1.length:=by omega
     have hm : ∀ f,Lref36_money f = some (monB f):=fun _=>rfl
     have hmon : ∀ f,0≤f→(monB f = true↔¬ 2100000000000000 < f):=by
      intro f hf;simp [monB,hf]
     rw [fee_eq,fee_eq,ha,hb,bind_some',bind_some',bind_some',bind_some',rclone_plan ⟨l1,l2,l3,l4⟩ hc.1 hc.2,bind_some',chk_bind (by omega),chk_bind (by have:=hc.1; omega),hk,idx_bind hkl,inA_bind hkl,get_bind hkl,inA_bind hkl,get_bind hkl];obtain ⟨f1,f2,f3,f4,f5⟩:=fee_inv h6
     have hf0 : 0≤p.2.2.1∧p.2.2.1≤2100000000000000:=by
      have:=sumI_pos (l:=valsS p.1) (vals_pos ⟨l1,l2,l3,l4⟩);unfold sumBad at f3;omega
     obtain ⟨nf,hnf⟩ : ∃ nf,newFee p.2.2.1 a b = nf:=⟨_,rfl⟩
     have hnf' := hnf;unfold newFee at hnf';rw [hnf'];have hx0:=l3 _ (List.getElem_mem hkl)
     have hge : p.2.2.1 + 1≤nf:=by
      rw [← hnf',wi (p.2.2.1 + 1) (by omega)];split <;> omega
     by_cases c1 : 300≤IntKind.i64.wrap ((p.1.2.2.1[k]).1 - IntKind.i64.wrap (nf - p.2.2.1))
     ·rw [if_pos c1,if_pos c1]
      unfold Lreplace_Bump_k1 Lref36_Bump_k1;rw [hm,bind_some'];have hmn:=hmon nf (by omega);by_cases c2 : 2100000000000000 < nf
      ·have c2' : ¬ monB nf = true:=fun h=>hmn.1 h c2
       exfalso
       have h7 : ((p.1.2.2.1[k]).1)∈valsS p.1:=List.mem_map.2 ⟨_,List.getElem_mem hkl,rfl⟩;have h8:=sumI_mem (vals_pos ⟨l1,l2,l3,l4⟩) h7
       have hnb : nf≤9223372036854775807:=by
        rw [← hnf'];have hw64 : ∀ a : Int,IntKind.i64.wrap a≤9223372036854775807:=fun a=>(w64 a).2
        have ha64 : a≤9223372036854775807:=by have:=(fee_bnd ((fee_eq w r).trans ha)).2; omega
        have q1:=hw64 (p.2.2.1 + b);have q2:=hw64 (p.2.2.1 + 1);split
        ·omega
        ·split <;> omega
       unfold sumBad at f3;rw [wi (nf - p.2.2.1) (by omega),wi _ (by omega)] at c1;omega
      ·have c2' : ¬ ¬ monB nf = true:=fun h=>h (hmn.2 c2)
       rw [if_neg c2,if_neg c2'];refine ⟨rfl,_,_,rfl,fun h=>(h rfl).elim,fun _=>⟨k,a,b,_,hkl,hv,hs,rfl,rfl,rfl,rfl,.inl ?_⟩⟩;rw [hnf];exact ⟨c1,by omega,rfl⟩
     ·rw [if_neg c1,if_neg c1]
      by_cases c3 : ((p.1.2.2.1[k]).1 < IntKind.i64.wrap (nf - p.2.2.1)∨(p.1.2.2.1.length : Int) = 1)
      ·rw [if_pos c3,if_pos c3]
       exact ⟨rfl,_,_,rfl,fun _=>⟨rfl,fun _ _ _ _ _=>.inl rfl⟩,fun h=>by cases h⟩
      ·rw [if_neg c3,if_neg c3]
       have hk1 : IntKind.i64.wrap ((k : Int) + 1) = ((k + 1 : Nat) : Int):=wi_succ hkl (by omega);unfold Lslices_Delete_of__api_Output_api_Output;rw [hk1,chk_bind (by omega),bind_some',chk_bind (by omega),chk_bind (by simp; omega),chk_bind (by omega),chk_bind (by simp; omega)];simp only [Int.toNat_natCast];unfold Lreplace_Bump_k1 Lref36_Bump_k1;rw [hm,bind_some']
       have hv64 : (p.1.2.2.1[k]).1≤2100000000000000:=by
        have h7 : ((p.1.2.2.1[k]).1)∈valsS p.1:=List.mem_map.2 ⟨_,List.getElem_mem hkl,rfl⟩;have h8:=sumI_mem (vals_pos ⟨l1,l2,l3,l4⟩) h7;unfold sumBad at f3;omega
       have hmn:=hmon (IntKind.i64.wrap (p.2.2.1 + (p.1.2.2.1[k]).1)) (by rw [wi _ (by omega)]; omega);by_cases c2 : 2100000000000000 < IntKind.i64.wrap (p.2.2.1 + (p.1.2.2.1[k]).1)
       ·have c2' : ¬ monB (IntKind.i64.wrap (p.2.2.1 + (p.1.2.2.1[k]).1)) = true:=fun h=>hmn.1 h c2
        exfalso
        have h7 : ((p.1.2.2.1[k]).1)∈valsS p.1:=List.mem_map.2 ⟨_,List.getElem_mem hkl,rfl⟩;have h8:=sumI_mem (vals_pos ⟨l1,l2,l3,l4⟩) h7;rw [wi _ (by omega)] at c2;unfold sumBad at f3;omega
       ·have c2' : ¬ ¬ monB (IntKind.i64.wrap (p.2.2.1 + (p.1.2.2.1[k]).1)) = true:=fun h=>h (hmn.2 c2)
        rw [if_neg c2,if_neg c2'];refine ⟨rfl,_,_,rfl,fun h=>(h rfl).elim,fun _=>⟨k,a,b,_,hkl,hv,hs,rfl,rfl,rfl,rfl,.inr ?_⟩⟩;rw [hnf];exact ⟨fun h=>c3 (.inl h),fun h=>c3 (.inr (by rw [h]; rfl)),by omega,rfl⟩
   ·rw [if_pos hs,if_pos hs]
    exact ⟨rfl,_,_,rfl,fun _=>⟨rfl,fun _ _ _ _ _=>.inr rfl⟩,fun h=>by cases h⟩
 ·rw [if_pos hv,if_pos hv]
  exact ⟨rfl,_,_,rfl,fun _=>⟨rfl,fun h=>(hv h).elim⟩,fun h=>by cases h⟩
theorem mod_tot (a : Int) {n : Int} (hn : 0 < n) (hn2 : n≤4611686018427387904) : Tot (Lmill_Mod a n) fun r=>0≤r∧r < n:=by
 refine ⟨_,mod_eq a (by omega) hn2,?_⟩;exact modS_in a (by omega)
end Go.Lc
end
section
/- Law 36: plans that are bumped again and again. -/
namespace Go.Lc
open Go.RowKit
open Go.Av
set_option linter.unusedVariables false
set_option linter.unusedSimpArgs false
set_option maxRecDepth 100000

theorem tot_unroll {σ ρ : Type} {step : σ→Option (σ ⊕ ρ)} {s : σ} {Q : ρ→Prop} (h : Tot (step s) fun r=>match r with | .inl s'=>Tot (runLoop step s') Q | .inr a=>Q a) : Tot (runLoop step s) Q:=by
 obtain ⟨r,hr,hq⟩:=h;cases r with
 | inl s'=>rw [runLoop_step hr]; exact hq
 | inr a=>exact ⟨a,runLoop_end hr,hq⟩
abbrev scr (k : Int) : List Int:=[1,1,IntKind.u8.wrap (1 + k.tmod 6),5]
abbrev rp (i : Int) : Tapi_OutPoint:=(((zA 32).put 0 1).put 1 (IntKind.u8.wrap i),IntKind.u32.wrap i)
abbrev rTx (lock q0 q1 : Int) (outs : List Tapi_Output) : Tapi_Tx:=(1,[(rp 0,q0,[]),(rp 1,q1,[])],outs,lock)
abbrev rCs : List Tapi_Coin:=[(rp 0,(10000,scr 0),1,false),(rp 1,(10000,scr 3),1,false)]
theorem r_len2 (lock q0 q1 a v : Int) (w : Bool) : (encS (rTx lock q0 q1 [(a,scr 0),(v,scr 1)]) w).length = if w then 118 else 116:=by
 cases w <;> simp [encS,headB,outB,bytesB,witB,sizeB]
theorem r_len1 (lock q0 q1 a : Int) (w : Bool) : (encS (rTx lock q0 q1 [(a,scr 0)]) w).length = if w then 105 else 103:=by
 cases w <;> simp [encS,headB,outB,bytesB,witB,sizeB]
theorem r_lim {lock q0 q1 : Int} {outs : List Tapi_Output} (h1 : outs.length≤2) (h2 : ∀ o∈outs,0≤o.1∧o.2.length≤520) : limS (rTx lock q0 q1 outs):=by
 refine ⟨by simp,by dsimp only; omega,h2,?_⟩;intro x hx;simp only [List.mem_cons,List.not_mem_nil,or_false] at hx;rcases hx with rfl | rfl <;> simp
theorem r_fits {lock q0 q1 : Int} {outs : List Tapi_Output} (h1 : outs.length≤2) (h2 : ∀ o∈outs,0≤o.1∧o.2.length≤520) (h3 : (encS (rTx lock q0 q1 outs) true).length≤20000) : fitsS (rTx lock q0 q1 outs) = true:=by
 classical
 unfold fitsS;simp only [decide_eq_true_eq];exact ⟨r_lim h1 h2,h3⟩
theorem rp_ne : rp 0≠rp 1:=by
 intro h;have:=congrArg Prod.snd h;exact absurd this (by decide)
theorem rp_null : rp 0≠nullP∧rp 1≠nullP:=⟨fun h=>absurd (congrArg Prod.snd h) (by decide),fun h=>absurd (congrArg Prod.snd h) (by decide)⟩
theorem r_check {lock q0 q1 : Int} {outs : List Tapi_Output} (h1 : outs.length≤2) (h0 : outs≠[]) (h2 : ∀ o∈outs,0≤o.1∧o.2.length≤520) (h3 : (encS (rTx lock q0 q1 outs) true).length≤20000) (h4 : sumI (outs.map Prod.fst)≤20000) : checkS (rTx lock q0 q1 outs) = 0:=by
 classical
 have hf:=r_fits (lock:=lock) (q0:=q0) (q1:=q1) h1 h2 h3;unfold checkS;rw [if_neg (by simp [hf]),if_neg,if_neg,if_neg,if_neg]
 ·rintro ⟨hm,_⟩
  simp only [ptsS,List.map_cons,List.map_nil,List.mem_cons,List.not_mem_nil,or_false] at hm;rcases hm with hm | hm
  ·exact rp_null.1 hm.symm
  ·exact rp_null.2 hm.symm
 ·rintro ⟨i,hi,hi2,hm⟩
  have hi3 : i = 0∨i = 1:=by simp [ptsS] at hi; omega
  rcases hi3 with rfl | rfl
  ·simp at hm
  ·simp only [ptsS,List.map_cons,List.map_nil,List.take_succ_cons,List.take_zero,List.mem_singleton,List.getElem_cons_succ,List.getElem_cons_zero] at hm
   exact rp_ne hm.symm
 ·show ¬ (2100000000000000 : Int) < sumI (outs.map Prod.fst)
  omega
 ·rintro (h | h)
  ·simp at h
  ·exact h0 (List.length_eq_zero_iff.1 h)
theorem r_valid {lock q0 q1 f c : Int} {outs : List Tapi_Output} (h1 : outs.length≤2) (h0 : outs≠[]) (h2 : ∀ o∈outs,0≤o.1∧o.2.length≤520) (h3 : (encS (rTx lock q0 q1 outs) true).length≤20000) (h4 : sumI (outs.map Prod.fst)≤20000) (hf : f = 20000 - sumI (outs.map Prod.fst)) (hc : -1≤c∧c < (outs.length : Int)) : planV (rTx lock q0 q1 outs,rCs,f,c) = true:=by
 have hk:=r_check (lock:=lock) (q0:=q0) (q1:=q1) h1 h0 h2 h3 h4;have hs : sumI (coinV rCs) = 20000:=by simp [coinV,sumI]
 have:=valid_of (p:=(rTx lock q0 q1 outs,rCs,f,c)) hk (by simp [cbS]) (by
  intro x hx;simp only [List.mem_cons,List.not_mem_nil,or_false] at hx;rcases hx with rfl | rfl <;> rfl) hc.1 hc.2 (by
  have:=fee_val (t:=rTx lock q0 q1 outs) (l:=rCs) hk (by simp [ptsS]) (by
   unfold sumBad;rw [hs];rintro (⟨v,hv,h⟩ | h)
   ·simp only [coinV,List.map_cons,List.map_nil,List.mem_cons,List.not_mem_nil,or_false] at hv
    rcases hv with rfl | rfl <;> omega
   ·omega) (by rw [hs]; exact h4)
  rw [this,hs];show some (20000 - sumI (outs.map Prod.fst),(0 : Int)) = some (f,0)
  rw [hf])
 unfold planV;rw [this];rfl
theorem r_cob {t : Tapi_Tx} {f c : Int} : CoB (t,rCs,f,c):=by
 refine ⟨by simp,?_⟩;intro x hx;simp only [List.mem_cons,List.not_mem_nil,or_false] at hx;rcases hx with rfl | rfl <;> simp
abbrev o2 (v : Int) : List Tapi_Output:=[(5000,scr 0),(v,scr 1)]
abbrev o1 : List Tapi_Output:=[(5000,scr 0)]
theorem o2_ok {v : Int} (h : 0≤v) : ∀ o∈o2 v,0≤o.1∧o.2.length≤520:=by
 intro o ho;simp only [List.mem_cons,List.not_mem_nil,or_false] at ho;rcases ho with rfl | rfl
 ·simp
 ·simpa using h
theorem o1_ok : ∀ o∈o1,0≤o.1∧o.2.length≤520:=by
 intro o ho;simp only [List.mem_singleton] at ho;subst ho;simp
theorem o2_valid {lock q0 q1 f v c : Int} (h : 0≤v) (hf : f + v = 15000) (h0 : v≤15000) (hc : -1≤c∧c < 2) : planV (rTx lock q0 q1 (o2 v),rCs,f,c) = true:=by
 have hs : sumI ((o2 v).map Prod.fst) = 5000 + v:=by simp [sumI]
 exact r_valid (by simp) (by simp) (o2_ok h) (by rw [r_len2]; simp) (by rw [hs]; omega) (by rw [hs]; omega) (by simpa using hc)
theorem o1_valid {lock q0 q1 : Int} : planV (rTx lock q0 q1 o1,rCs,15000,-1) = true:=by
 have hs : sumI (o1.map Prod.fst) = 5000:=by simp [sumI]
 exact r_valid (by simp) (by simp) o1_ok (by rw [r_len1]; simp) (by rw [hs]; omega) (by rw [hs]; omega) (by simp)
theorem o2_weight {lock q0 q1 v : Int} (h : 0≤v) : weightS (rTx lock q0 q1 (o2 v)) = 466:=by
 unfold weightS;rw [if_pos (r_fits (by simp) (o2_ok h) (by rw [r_len2]; simp)),r_len2,r_len2];rfl
theorem o1_weight {lock q0 q1 : Int} : weightS (rTx lock q0 q1 o1) = 414:=by
 unfold weightS;rw [if_pos (r_fits (by simp) o1_ok (by rw [r_len1]; simp)),r_len1,r_len1];rfl
/-- the plans that come up -/
def RiseP (p : Tapi_Plan) (k : Nat) : Prop:=∃ lock q0 q1,
 (∃ v f,p = (rTx lock q0 q1 (o2 v),rCs,f,1)∧f + v = 15000∧300≤v∧v + 51 * (k : Int)≤15000) ∨
 (∃ v f,p = (rTx lock q0 q1 (o2 v),rCs,f,-1)∧f + v = 15000∧0≤v∧v≤15000∧k≤300) ∨
 (p = (rTx lock q0 q1 o1,rCs,15000,-1)∧k≤300)
theorem rises_end {a1 k : Int} {p q : Tapi_Plan} {c w r : Int} (hk : k < 400) (hw : weightS p.1 = w) (hw2 : 0≤w∧w≤1000) (hr : Lmill_Mod a1 3000 = some r) (hb : Lreplace_Bump p (w + 40) r = some (q,c)) (hc : c = 320∨c = 360) : runLoop (Llaw36_ReplaceRises_s1 a1) (k,p) = some true:=by
 refine runLoop_end ?_;simp only [Llaw36_ReplaceRises_s1];rw [if_pos hk,rtx_weight,bind_some',hr,bind_some',hw,wi _ (by omega),hb,bind_some'];rw [if_pos (by rcases hc with rfl | rfl <;> simp)];rcases hc with rfl | rfl <;> rfl
theorem rises_go {a1 : Int} {k : Nat} {p q : Tapi_Plan} {w r : Int} (hk : k < 400) (hw : weightS p.1 = w) (hw2 : 0≤w∧w≤1000) (hr : Lmill_Mod a1 3000 = some r) (hb : Lreplace_Bump p (w + 40) r = some (q,0)) (hv : planV q = true) (hf : p.2.2.1 < q.2.2.1) (hc : q.2.1.length = p.2.1.length) {o : Tapi_Output} (h0 : p.1.2.2.1[0]? = some o) (h1 : q.1.2.2.1[0]? = some o) (hcon : conS p.1 q.1 = true) (hl : p.1.2.1.length≤100) (hl' : q.1.2.1.length≤100) : runLoop (Llaw36_ReplaceRises_s1 a1) ((k : Int),p) = runLoop (Llaw36_ReplaceRises_s1 a1) (((k + 1 : Nat) : Int),q):=by
 refine runLoop_step ?_;simp only [Llaw36_ReplaceRises_s1];have hf' : ¬ q.2.2.1≤p.2.2.1:=by omega
 rw [if_pos (by omega),rtx_weight,bind_some',hr,bind_some',hw,wi _ (by omega),hb,bind_some'];dsimp only;rw [if_neg (by simp),(planV_eq q).2,bind_some',hv];rw [if_neg (by simp [hf',hc]),h1,h0,bind_some',bind_some',rout_self,bind_some',bind_some'];rw [if_neg (by simp [hf',hc]),con_eq (by omega) (by omega),hcon,bind_some',bind_some'];rw [if_neg (by simp [hf',hc]),wi_succ hk (by omega)]
theorem newFee_ge {f a b : Int} (h : 0≤f∧f≤20000) (hb : 0≤b∧b≤83887080) : f + b≤newFee f a b∧f + 1≤newFee f a b:=by
 unfold newFee;rw [wi (f + b) (by omega),wi (f + 1) (by omega)];split <;> split <;> omega
theorem newFee_le {f a b : Int} (h : 0≤f∧f≤20000) (hb : 0≤b∧b≤83887080) (ha : a≤83887080) : newFee f a b≤100000000:=by
 unfold newFee;rw [wi (f + b) (by omega),wi (f + 1) (by omega)];split <;> split <;> omega
theorem rises_loop (a1 : Int) : ∀ (n k : Nat) (p : Tapi_Plan),k + n = 400→RiseP p k→runLoop (Llaw36_ReplaceRises_s1 a1) ((k : Int),p) = some true:=by
 intro n;induction n with
 | zero =>
  rintro k p hk ⟨lock,q0,q1,⟨v,f,rfl,h1,h2,h3⟩ | ⟨v,f,rfl,h1,h2,h3,h4⟩ | ⟨rfl,h1⟩⟩ <;> omega
 | succ n ih =>
  intro k p hk hR;obtain ⟨r,hr,hr1,hr2⟩:=mod_tot a1 (n:=3000) (by omega) (by omega)
  have hno : ∀ {p : Tapi_Plan} {w : Int},weightS p.1 = w→0≤w∧w≤1000→planV p = true→CoB p→p.2.2.2 = -1→runLoop (Llaw36_ReplaceRises_s1 a1) ((k : Int),p) = some true:=by
   intro p w hw hw2 hv hcob hch;obtain ⟨_,q,c,h2,h3,h4⟩:=bump_out hcob (w + 40) r;by_cases hc : c = 0
   ·obtain ⟨k',a,b,x,hk',_,_,h5,_⟩:=h4 hc
    omega
   ·exact rises_end (by omega) hw hw2 hr h2 ((h3 hc).2 hv hr1 (by omega) (by omega) (by omega))
  obtain ⟨lock,q0,q1,⟨v,f,rfl,h1,h2,h3⟩ | ⟨v,f,rfl,h1,h2,h3,h4⟩ | ⟨rfl,h1⟩⟩:=hR
  ·have hw : weightS (rTx lock q0 q1 (o2 v)) = 466:=o2_weight (by omega)
   have hv:=o2_valid (lock:=lock) (q0:=q0) (q1:=q1) (f:=f) (v:=v) (c:=1) (by omega) h1 (by omega) (by omega);obtain ⟨_,q,c,g2,g3,g4⟩:=bump_out (p:=(rTx lock q0 q1 (o2 v),rCs,f,1)) r_cob (466 + 40) r;by_cases hc : c = 0
   ·subst hc
    obtain ⟨k',a,b,x,hk',_,_,e1,e2,e3,e4,e5⟩:=g4 rfl;have hk1 : k' = 1:=by dsimp only at e1; omega
    subst hk1;have hx : x = (v,scr 1):=e4.symm;subst hx
    have hb : b = 51:=by
     have : Lbuild_Fee (466 + 40) 100 = some 51:=by decide
     rw [this] at e3;injection e3 with e3;exact e3.symm
    subst hb;have hab:=fee_bnd e2;dsimp only at e5;obtain ⟨nf,hnf⟩ : ∃ nf,newFee f a 51 = nf:=⟨_,rfl⟩
    have n1:=newFee_ge (f:=f) (a:=a) (b:=51) (by omega) (by omega);have n2:=newFee_le (f:=f) (a:=a) (b:=51) (by omega) (by omega) hab.2;rw [hnf] at e5 n1 n2;rw [wi (nf - f) (by omega),wi (v - (nf - f)) (by omega)] at e5;rcases e5 with ⟨e6,e7,rfl⟩ | ⟨e6,e7,e8,rfl⟩
    ·have hR : RiseP (rTx lock q0 q1 (o2 (v - (nf - f))),rCs,nf,1) (k + 1):=⟨lock,q0,q1,.inl ⟨_,_,rfl,by omega,by omega,by omega⟩⟩
     rw [← ih (k + 1) _ (by omega) hR];refine rises_go (o:=(5000,scr 0)) (by omega) hw (by omega) hr g2 ?_ ?_ rfl rfl rfl ?_ (by simp) (by simp)
     ·exact o2_valid (by omega) (by omega) (by omega) (by omega)
     ·dsimp only; omega
     ·simp [conS,samePt]
    ·have hvf : IntKind.i64.wrap (f + v) = 15000:=by rw [wi _ (by omega)]; omega
     have hR : RiseP (rTx lock q0 q1 o1,rCs,15000,-1) (k + 1):=⟨lock,q0,q1,.inr (.inr ⟨rfl,by omega⟩)⟩
     rw [← ih (k + 1) _ (by omega) hR];rw [hvf] at g2;refine rises_go (o:=(5000,scr 0)) (by omega) hw (by omega) hr g2 ?_ ?_ rfl rfl rfl ?_ (by simp) (by simp)
     ·exact o1_valid
     ·dsimp only; omega
     ·simp [conS,samePt]
   ·exact rises_end (by omega) hw (by omega) hr g2 ((g3 hc).2 hv hr1 (by omega) (by dsimp only; omega) (by omega))
  ·exact hno (o2_weight h2) (by omega) (o2_valid h2 h1 h3 (by omega)) r_cob rfl
  ·exact hno o1_weight (by omega) o1_valid r_cob rfl
theorem plan_rise {d : Tlightclientmill_Deck} (h : DeckOk d) : Tot (Lmill_Plan d [scr 0,scr 3]) fun r=>RiseP r.1 0:=by
 unfold Lmill_Plan;refine (next_tot h (by omega) (by omega)).bind fun y1 h1=>?_
 refine tot_unroll ?_;simp only [Lmill_Plan_s1];rw [if_pos (by simp),show idx [scr 0,scr 3] (0 : Int) = some (scr 0) from rfl,bind_some',chk_bind (by simp)];refine (next_tot h1.2 (by omega) (by omega)).bind fun y2 h2=>?_
 refine tot_inA (by omega) (by omega) fun j _ hj=>tot_get (by simpa using hj) fun x2 _=>?_
 refine tot_chk (by simp) (tot_some ?_);dsimp only;rw [wi (0 + 10000) (by omega),wi (0 + 1) (by omega)];refine tot_unroll ?_;simp only [Lmill_Plan_s1];rw [if_pos (by simp),show idx [scr 0,scr 3] (0 + 1 : Int) = some (scr 3) from rfl,bind_some',chk_bind (by simp)];refine (next_tot h2.2 (by omega) (by omega)).bind fun y3 h3=>?_
 refine tot_inA (by omega) (by omega) fun j _ hj=>tot_get (by simpa using hj) fun x3 _=>?_
 refine tot_chk (by simp) (tot_some ?_);dsimp only;rw [wi (0 + 10000 + 10000) (by omega),wi (0 + 1 + 1) (by omega)];refine tot_unroll ?_;simp only [Lmill_Plan_s1];rw [if_neg (by simp)]
 have fin : ∀ {x : Option (Tapi_Plan×Tlightclientmill_Deck)} {Q : Tapi_Plan×Tlightclientmill_Deck→Prop} {F : _→Prop},Tot x Q→(∀ a,Q a→F (.inr a))→Tot (x.map Sum.inr : Option ((Int×Int×Tlightclientmill_Deck×(List Tapi_Input)×(List Tapi_Coin)) ⊕ _)) F:=by
  rintro _ Q F ⟨a,rfl,ha⟩ h
  exact ⟨.inr a,rfl,h a ha⟩
 refine fin (Q:=fun r=>RiseP r.1 0) ?_ fun a ha=>ha
 unfold Lmill_Plan_k1;refine (next_tot h3.2 (by omega) (by omega)).bind fun y4 h4=>?_
 rw [script_eq,bind_some',script_eq,bind_some'];refine (next_tot h4.2 (by omega) (by omega)).bind fun y5 h5=>?_
 have h40:=h4.1.1;have h41:=h4.1.2;simp only [wi (0 + 10000 + 10000 - 5000) (by omega),wi (0 + 10000 + 10000 - 5000 - y4.1) (by omega),wi (y4.1 + (0 + 10000 + 10000 - 5000 - y4.1)) (by omega),wi (y4.1 + (0 + 10000 + 10000 - 5000 - y4.1) - 301) (by omega)];refine tot_ite (fun _=>?_) fun _=>tot_ite (fun _=>(next_tot h5.2 (by omega) (by omega)).bind fun y6 h6=>?_) fun _=>?_
 ·unfold Lmill_Plan_k2
  exact tot_some ⟨_,_,_,.inr (.inl ⟨_,_,rfl,by omega,by omega,by omega,by omega⟩)⟩
 ·unfold Lmill_Plan_k2
  have h60:=h6.1.1;have h61:=h6.1.2;rw [wi (y4.1 + (0 + 10000 + 10000 - 5000 - y4.1) - 301 - y6.1) (by omega),wi (0 + 10000 + 10000 - 5000 - _) (by omega)];exact tot_some ⟨_,_,_,.inl ⟨_,_,rfl,by omega,by omega,by omega⟩⟩
 ·unfold Lmill_Plan_k2
  exact tot_some ⟨_,_,_,.inl ⟨_,_,rfl,by omega,by omega,by omega⟩⟩
theorem replaceRises (a0 : List Int) (a1 : Int) (h : a0.length≤9223372036854775807) : Llaw36_ReplaceRises a0 a1 = some true:=by
 unfold Llaw36_ReplaceRises;rw [sane36,bind_some',if_neg (by simp)];unfold Lmill_New;rw [bind_some',script_eq,bind_some',script_eq,bind_some'];obtain ⟨y5,e5,g⟩:=plan_rise (d:=(a0,0)) ⟨by simp,by simp,h⟩;rw [e5,bind_some'];exact rises_loop a1 400 0 _ (by omega) g
end Go.Lc
end
