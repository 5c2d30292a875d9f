import Derived.Test.YthpkpciceodioaaGreatDoorLcG4
import Derived.Test.YthpkpciceodioaaGreatDoorLcG3
section
/- Rice codes and filters: what is written. -/
namespace Go.Lc
open Go.RowKit
open Go.Av
set_option linter.unusedVariables false
set_option linter.unusedSimpArgs false
set_option maxRecDepth 100000

/-! valid strings -/
/-! numbers,bit by bit -/
def Wr (d : List Int) (n : Nat) (B : List Bool) (x : List Int×Int) : Prop:=x.2 = ((n + B.length : Nat) : Int)∧VB x.1 (n + B.length)∧bl x.1 (n + B.length) = bl d n++B
theorem Wr.nil {d : List Int} {n : Nat} (h : VB d n) : Wr d n [] (d,(n : Int)):=⟨rfl,by simpa using h,by simp⟩
theorem fd {v : Int} (h : 0≤v) (k : Nat) : v.fdiv (2 ^ k) = v / 2 ^ k:=Int.fdiv_eq_ediv_of_nonneg _ (by have : (0 : Int) < 2 ^ k:=Int.pow_pos (by omega); omega)
/-! Rice codes -/
end Go.Lc
end
section
/- Filters: the program's Encode is the reference's. -/
namespace Go.Lc
open Go.RowKit
open Go.Av
set_option linter.unusedVariables false
set_option linter.unusedSimpArgs false
set_option maxRecDepth 100000

def chain (a : Int) : List Int→Prop
 | []=>True
 | v :: l=>a≤v∧chain v l
theorem same_refl (f : Tapi_Filter) : Lref19_Same f f = some true:=by simp [Lref19_Same,Lref01_Same]
end Go.Lc
end
section
/- Values of items: the program's SipHash is the reference's. -/
namespace Go.Lc
open Go.RowKit
open Go.Av
set_option linter.unusedVariables false
set_option linter.unusedSimpArgs false
set_option maxRecDepth 100000

def q4 (a b c d : Int) : Arr 4:=⟨[a,b,c,d],rfl⟩
section
variable {a b c d x : Int}
end
end Go.Lc
end
section
/- Filters of items,and the values of items: the program's are the reference's. -/
namespace Go.Lc
open Go.RowKit
open Go.Av
set_option linter.unusedVariables false
set_option linter.unusedSimpArgs false
set_option maxRecDepth 100000

theorem strOf_inj {a b : List Int} (ha : Byt a) (hb : Byt b) (h : strOf a = strOf b) : a = b:=by
 have h1 : a.map (fun n=>UInt8.ofNat n.toNat) = b.map (fun n=>UInt8.ofNat n.toNat):=by
  have:=congrArg (fun s : ByteArray=>s.data.toList) h;simpa [strOf] using this
 have hl : a.length = b.length:=by simpa using congrArg List.length h1
 apply List.ext_getElem hl
 intro i h2 h3;have h4:=congrArg (fun l=>l[i]?) h1;simp only [List.getElem?_map,List.getElem?_eq_getElem h2,List.getElem?_eq_getElem h3,Option.map_some,Option.some.injEq] at h4;have g1:=ha _ (List.getElem_mem h2);have g2:=hb _ (List.getElem_mem h3);have h5:=congrArg UInt8.toNat h4;simp only [UInt8.toNat_ofNat'] at h5;omega
theorem rsame_eq {a b : List Int} (ha : Byt a) (hb : Byt b) : Lref01_Same a b = some (decide (a = b)):=by
 rw [Lref01_Same]
 congr 1
 by_cases h : a = b
 ·simp [h]
 ·have h2 : ¬ strOf a = strOf b:=fun e=>h (strOf_inj ha hb e)
  simp [h,h2]
/-! the values -/
/-! the sort of the reference -/
/-! different items -/
/-! the check of sanity -/
end Go.Lc
end
section
/- Laws 19: Encodes,Builds,Repeats. -/
namespace Go.Lc
open Go.RowKit
open Go.Av
set_option linter.unusedVariables false
set_option linter.unusedSimpArgs false
set_option maxRecDepth 100000

end Go.Lc
end
section
/- Values of items without repetitions: the program's are the reference's. -/
namespace Go.Lc
open Go.RowKit
open Go.Av
set_option linter.unusedVariables false
set_option linter.unusedSimpArgs false
set_option maxRecDepth 100000

theorem takeS (l : List Int) (i : Nat) (h : i < l.length) : l.take (i + 1) = l.take i++[l[i]]:=List.take_succ_eq_append_getElem h
end Go.Lc
end
section
/- Filters that are read: the program's Decode is the reference's. -/
namespace Go.Lc
open Go.RowKit
open Go.Av
set_option linter.unusedVariables false
set_option linter.unusedSimpArgs false
set_option maxRecDepth 100000

theorem pow_le {p q : Nat} (h : p≤q) : (2 : Int) ^ p≤2 ^ q:=by
 have:=Nat.pow_le_pow_right (n:=2) (by omega) h
 exact_mod_cast this
/-! Rice codes that are read -/
def ones (d : List Int) : Nat→Nat→Nat
 | 0,_=>0
 | f + 1,a=>if bt d a = true then ones d f (a + 1) + 1 else 0
/-! filters -/
end Go.Lc
end
section
/- Matches: the program's Match is the reference's. -/
namespace Go.Lc
open Go.RowKit
open Go.Av
set_option linter.unusedVariables false
set_option linter.unusedSimpArgs false
set_option maxRecDepth 100000

end Go.Lc
end
section
/- What is written comes back,and what is read is written again in the same way. -/
namespace Go.Lc
open Go.RowKit
open Go.Av
set_option linter.unusedVariables false
set_option linter.unusedSimpArgs false
set_option maxRecDepth 100000

/-! numbers -/
theorem or_sum {q p : Nat} {low : Nat} (hl : low < 2 ^ p) (hs : q * 2 ^ p + low≤18446744073709551615) : bits .or .u64 (IntKind.u64.wrap ((q : Int) * 2 ^ p)) (low : Int) = ((q * 2 ^ p + low : Nat) : Int):=by
 have e0 : (q : Int) * 2 ^ p = ((q * 2 ^ p : Nat) : Int):=by simp
 rw [e0,wu_nat (by omega)];show IntKind.u64.wrap ((BitVec.ofInt 64 ((q * 2 ^ p : Nat) : Int) ||| BitVec.ofInt 64 (low : Int)).toNat : Int) = _
 rw [BitVec.toNat_or]
 have e1 : (BitVec.ofInt 64 ((q * 2 ^ p : Nat) : Int)).toNat = q * 2 ^ p:=by
  simp only [BitVec.toNat_ofInt];omega
 have e2 : (BitVec.ofInt 64 (low : Int)).toNat = low:=by
  simp only [BitVec.toNat_ofInt];omega
 have e3:=Nat.two_pow_add_eq_or_of_lt hl q;rw [e1,e2,Nat.mul_comm q,← e3,wu_nat (by rw [Nat.mul_comm]; exact hs)]

/-! reading what was written -/
/-! writing what was read -/
end Go.Lc
end
section
/- reading numbers,sizes and bytes out of bytes,both sides -/
namespace Go.Lc
open Go.RowKit
open Go.Av
set_option linter.unusedVariables false
set_option linter.unusedSimpArgs false
set_option maxRecDepth 100000

/-- the number that bytes say,the lowest first -/
def leV : List Int→Int
 | []=>0
 | x :: l=>x + 256 * leV l
theorem leV_range : ∀ (l : List Int),Byt l→0≤leV l∧leV l < 256 ^ l.length
 | [],_=>by simp [leV]
 | x :: l,h=>by
  have hx:=h x (by simp);have ih:=leV_range l fun y hy=>h y (by simp [hy])
  simp only [leV,List.length_cons,Int.pow_succ];omega
theorem leV_snoc : ∀ (l : List Int) (x : Int),leV (l++[x]) = leV l + 256 ^ l.length * x
 | [],x=>by simp [leV]
 | y :: l,x=>by
  simp only [List.cons_append,leV,leV_snoc l x,List.length_cons,Int.pow_succ];have : 256 * (256 ^ l.length * x) = 256 ^ l.length * 256 * x:=by rw [Int.mul_comm (256 ^ l.length) 256,Int.mul_assoc]
  omega
theorem wrap_u8 (x : Int) : IntKind.u8.wrap x = x % 256:=rfl
theorem fdiv_up (n : Int) (h : 0≤n) (i : Nat) : n.fdiv (2 ^ (8 * (i + 1))) = (n / 256).fdiv (2 ^ (8 * i)):=by
 rw [fd h,fd (by omega),show 8 * (i + 1) = 8 + 8 * i by omega,Int.pow_add,← Int.ediv_ediv_of_nonneg (by decide)];rfl
theorem lowB_succ (n : Int) (h : 0≤n) (k : Nat) : lowB n (k + 1) = n % 256 :: lowB (n / 256) k:=by
 simp only [lowB,List.range_succ_eq_map,List.map_cons,List.map_map]
 congr 1
 ·rw [wrap_u8,fd h]
  simp
 ·apply List.map_congr_left
  intro i _;show IntKind.u8.wrap (n.fdiv (2 ^ (8 * (i + 1)))) = _
  rw [fdiv_up n h]
theorem lowB_leV : ∀ (l : List Int),Byt l→lowB (leV l) l.length = l
 | [],_=>rfl
 | x :: l,h=>by
  have hx:=h x (by simp);have hr:=leV_range l fun y hy=>h y (by simp [hy])
  have ih:=lowB_leV l fun y hy=>h y (by simp [hy])
  rw [List.length_cons,lowB_succ _ (by simp only [leV]; omega)];simp only [leV];rw [show (x + 256 * leV l) % 256 = x by omega,show (x + 256 * leV l) / 256 = leV l by omega,ih]
theorem lowB_byt (n : Int) (k : Nat) : Byt (lowB n k):=by
 intro x hx;obtain ⟨i,_,rfl⟩:=List.mem_map.1 hx;rw [wrap_u8];omega
/-- what reading a number of k bytes at a says -/
def rdS (d : List Int) (a : Int) (k : Nat) : Int×Int×Int :=
 if a < 0∨(d.length : Int) < a then (0,0,5) else if (d.length : Int) - a < k then (0,0,1) else (leV ((d.drop a.toNat).take k),a + k,0)
theorem byt_part {d : List Int} (h : Byt d) (a k : Nat) : Byt ((d.drop a).take k):=fun x hx=>h x (List.mem_of_mem_drop (List.mem_of_mem_take hx))
theorem part_len {d : List Int} {a k : Nat} (h : a + k≤d.length) : ((d.drop a).take k).length = k:=by simp; omega
theorem part_snoc {d : List Int} {a k : Nat} (h : a + k < d.length) : (d.drop a).take (k + 1) = (d.drop a).take k++[d[a + k]]:=by
 rw [takeS _ _ (by simp; omega)];simp
theorem part_cons {d : List Int} {a k : Nat} (h : a < d.length) : (d.drop a).take (k + 1) = d[a] :: (d.drop (a + 1)).take k:=by
 rw [List.drop_eq_getElem_cons h,List.take_succ_cons]
theorem pow256 (i : Nat) : (256 : Int) ^ i = 2 ^ (8 * i):=by
 rw [Int.pow_mul];rfl
theorem pow256_le {i k : Nat} (h : i≤k) : (256 : Int) ^ i≤256 ^ k:=by
 rw [pow256,pow256];exact pow_le (by omega)
theorem or_byte64 {acc x : Int} (h0 : 0≤acc) (hx : 0≤x∧x≤255) (h : acc * 256 + x≤18446744073709551615) : bits .or .u64 (IntKind.u64.wrap (acc * 256)) (IntKind.u64.wrap x) = acc * 256 + x:=by
 obtain ⟨q,rfl⟩:=Int.eq_ofNat_of_zero_le h0;obtain ⟨y,rfl⟩:=Int.eq_ofNat_of_zero_le hx.1;have:=@or_sum q 8 y (by omega) (by omega);rw [wu (y : Int) (by omega)];have e : ((q : Int) * 256) = (q : Int) * 2 ^ 8:=rfl;rw [e,this];omega
theorem number_rd {d : List Int} (hb : Byt d) (hd : d.length≤1000000) (a : Int) (k : Nat) (hk1 : 1≤k) (hk : k≤8) : Lref01_number d a k = some (rdS d a k):=by
 unfold Lref01_number rdS;by_cases h1 : a < 0∨(d.length : Int) < a
 ·rw [if_pos h1,if_pos h1]
 rw [if_neg h1,if_neg h1,wi _ (by omega)];by_cases h2 : (d.length : Int) - a < k
 ·rw [if_pos h2,if_pos h2]
 rw [if_neg h2,if_neg h2,wi _ (by omega)];obtain ⟨n,rfl⟩:=Int.eq_ofNat_of_zero_le (show 0≤a by omega);rw [Int.toNat_natCast];have hn : n + k≤d.length:=by omega
 have key:=runLoop_to (step:=Lref01_number_s1 d (n : Int) (k : Int)) (fun i=>(leV ((d.drop (n + k - i)).take i),(k : Int) - 1 - i)) k (x:=some (leV ((d.drop n).take k),(n : Int) + k,0)) ?_ ?_
 ·simpa [leV] using key
 ·intro i hi
  simp only [Lref01_number_s1];rw [if_pos (by omega),wi _ (by omega),show (n : Int) + ((k : Int) - 1 - i) = ((n + k - (i + 1) : Nat) : Int) by omega,idx_bind (by omega),wi _ (by omega)];have hr:=leV_range _ (byt_part hb (n + k - i) i);rw [part_len (by omega)] at hr;have hx:=hb _ (List.getElem_mem (l:=d) (n:=n + k - (i + 1)) (by omega));have hp : (256 : Int) ^ (i + 1)≤256 ^ 8:=pow256_le (by omega);rw [Int.pow_succ] at hp;have h8 : (256 : Int) ^ 8 = 18446744073709551616:=by decide
  rw [or_byte64 hr.1 hx (by omega),part_cons (by omega),leV,show n + k - (i + 1) + 1 = n + k - i by omega];simp only [Option.some.injEq,Sum.inl.injEq,Prod.mk.injEq];omega
 ·simp only [Lref01_number_s1]
  rw [if_neg (by omega),show n + k - k = n by omega];unfold Lref01_number_k1;rw [wi _ (by omega)]
theorem read_any {d : List Int} (hb : Byt d) (hd : d.length≤1000000) {n : Nat} {k : Nat} (hk : k≤8) (h1 : n + k≤d.length) {step : Int×Int→Option ((Int×Int) ⊕ (Int×Int×Int))} (O : Int→Int→Int→Int)
  (hs : ∀ p8 p9,step (p8,p9) = if p9 < (k : Int) then (idx d (IntKind.i64.wrap ((n : Int) + p9))).bind fun x=>(chk (¬ (IntKind.i64.wrap (8 * p9) < 0))).bind fun _=>some (.inl (O p8 x p9,IntKind.i64.wrap (p9 + 1))) else (some (p8,IntKind.i64.wrap ((n : Int) + k),0)).map Sum.inr)
  (hO : ∀ (acc x : Int) (i : Nat),i < k→0≤acc→acc < 256 ^ i→0≤x→x≤255→O acc x (i : Int) = acc + 256 ^ i * x) :
  runLoop step (0,0) = some (leV ((d.drop n).take k),(n : Int) + k,0):=by
 have key:=runLoop_to (step:=step) (fun i=>(leV ((d.drop n).take i),(i : Int))) k (x:=some (leV ((d.drop n).take k),(n : Int) + k,0)) ?_ ?_
 ·simpa [leV] using key
 ·intro i hi
  have hr:=leV_range _ (byt_part hb n i);rw [part_len (by omega)] at hr;have hx:=hb _ (List.getElem_mem (l:=d) (n:=n + i) (by omega));rw [hs,if_pos (by omega),wi _ (by omega),show (n : Int) + (i : Int) = ((n + i : Nat) : Int) by omega,idx_bind (by omega),chk_bind (by rw [wi _ (by omega)]; omega),wi _ (by omega),hO _ _ i hi hr.1 hr.2 hx.1 hx.2,part_snoc (by omega),leV_snoc,part_len (by omega)];rfl
 ·rw [hs,if_neg (by omega),wi _ (by omega)]
theorem room_eq {d : List Int} (hd : d.length≤1000000) (a : Int) (k : Nat) : Lcodec_room d a k = some (if a < 0∨(d.length : Int) < a then 5 else if (d.length : Int) - a < k then 1 else 0):=by
 unfold Lcodec_room;by_cases h1 : a < 0∨(d.length : Int) < a
 ·rw [if_pos h1,if_pos h1]
 rw [if_neg h1,if_neg h1,wi _ (by omega)];split <;> rfl
theorem read_rd {d : List Int} (hb : Byt d) (hd : d.length≤1000000) (a : Int) (k : Nat) (hk : k≤8) {step : Int×Int→Option ((Int×Int) ⊕ (Int×Int×Int))} (O : Int→Int→Int→Int)
  (hs : ∀ p8 p9,step (p8,p9) = if p9 < (k : Int) then (idx d (IntKind.i64.wrap (a + p9))).bind fun x=>(chk (¬ (IntKind.i64.wrap (8 * p9) < 0))).bind fun _=>some (.inl (O p8 x p9,IntKind.i64.wrap (p9 + 1))) else (some (p8,IntKind.i64.wrap (a + k),0)).map Sum.inr)
  (hO : ∀ (acc x : Int) (i : Nat),i < k→0≤acc→acc < 256 ^ i→0≤x→x≤255→O acc x (i : Int) = acc + 256 ^ i * x) :
  ((Lcodec_room d a k).bind fun y1=>(if ¬ (y1 = 0) then some ((0,0,y1)) else runLoop step (0,0))) = some (rdS d a k):=by
 rw [room_eq hd,bind_some'];unfold rdS;by_cases h1 : a < 0∨(d.length : Int) < a
 ·simp only [if_pos h1]
  rfl
 simp only [if_neg h1];by_cases h2 : (d.length : Int) - a < k
 ·simp only [if_pos h2]
  rfl
 simp only [if_neg h2];obtain ⟨n,rfl⟩:=Int.eq_ofNat_of_zero_le (show 0≤a by omega);simp only [not_true_eq_false,if_false,Int.toNat_natCast];exact read_any hb hd hk (by omega) O hs hO
theorem or_upK (K : IntKind) (w : Nat) (hw : ∀ x : Int,K.wrap x = x % 2 ^ w) (hb : ∀ x y : Int,bits .or K x y = K.wrap ((BitVec.ofInt w x ||| BitVec.ofInt w y).toNat : Int)) {q p low : Nat} (hl : low < 2 ^ p) (hs : q * 2 ^ p + low < 2 ^ w) :
  bits .or K (low : Int) (K.wrap ((q : Int) * 2 ^ p)) = ((q * 2 ^ p + low : Nat) : Int):=by
 have e0 : (q : Int) * 2 ^ p = ((q * 2 ^ p : Nat) : Int):=by simp
 have hc : ((2 : Int) ^ w) = ((2 ^ w : Nat) : Int):=by simp
 have hm : ∀ m : Nat,m < 2 ^ w→K.wrap (m : Int) = (m : Int):=by
  intro m hm;rw [hw,hc];exact Int.emod_eq_of_lt (by omega) (by omega)
 have ht : ∀ m : Nat,m < 2 ^ w→(BitVec.ofInt w (m : Int)).toNat = m:=by
  intro m hm;simp only [BitVec.toNat_ofInt];rw [Int.emod_eq_of_lt (Int.natCast_nonneg _) (Int.ofNat_lt.2 hm)];rfl
 rw [e0,hm _ (by omega),hb,BitVec.toNat_or,ht _ (by omega),ht _ (by omega),Nat.or_comm];have e3:=Nat.two_pow_add_eq_or_of_lt hl q;rw [Nat.mul_comm q,← e3,hm _ (by rw [Nat.mul_comm]; exact hs)]
theorem or_part (K : IntKind) (w : Nat) (hw : ∀ x : Int,K.wrap x = x % 2 ^ w) (hb : ∀ x y : Int,bits .or K x y = K.wrap ((BitVec.ofInt w x ||| BitVec.ofInt w y).toNat : Int)) {k : Nat} (hk : 8 * k≤w) (hk8 : k≤8) (acc x : Int) (i : Nat) (hi : i < k) (h0 : 0≤acc) (h1 : acc < 256 ^ i) (hx0 : 0≤x) (hx : x≤255) :
  bits .or K acc (K.wrap ((K.wrap x) * (2 ^ (min (IntKind.i64.wrap (8 * (i : Int))).toNat w)))) = acc + 256 ^ i * x:=by
 have hwp : (2 : Int) ^ (8 * (i + 1))≤2 ^ w:=pow_le (by omega);have e8 : (2 : Int) ^ (8 * (i + 1)) = 2 ^ (8 * i) * 256:=by rw [show 8 * (i + 1) = 8 * i + 8 by omega,Int.pow_add]; rfl
 have h1p : (1 : Int)≤2 ^ (8 * i):=by have:=@pow_le 0 (8 * i) (by omega); simpa using this
 rw [hw x,Int.emod_eq_of_lt hx0 (by omega),show min (IntKind.i64.wrap (8 * (i : Int))).toNat w = 8 * i by rw [wi _ (by omega)]; omega];rw [pow256] at h1 ⊢;obtain ⟨q,rfl⟩:=Int.eq_ofNat_of_zero_le hx0;obtain ⟨y,rfl⟩:=Int.eq_ofNat_of_zero_le h0;have c1 : ((2 : Int) ^ (8 * i)) = ((2 ^ (8 * i) : Nat) : Int):=by simp
 have c2 : ((2 : Int) ^ w) = ((2 ^ w : Nat) : Int):=by simp
 have hq : q * 2 ^ (8 * i)≤255 * 2 ^ (8 * i):=Nat.mul_le_mul_right _ (by omega);have:=@or_upK K w hw hb q (8 * i) y (by omega) (by omega);rw [this];simp only [Int.natCast_add,Int.natCast_mul,← c1];rw [Int.mul_comm,Int.add_comm]
theorem u8_rd {d : List Int} (hb : Byt d) (hd : d.length≤1000000) (a : Int) : Lcodec_U8 d a = some (rdS d a 1):=by
 unfold Lcodec_U8 Lcodec_read_of_uint8;have h:=read_rd hb hd a 1 (by omega) (step:=Lcodec_read_of_uint8_s1 1 d a) (fun p8 x p9=>bits .or .u8 p8 (IntKind.u8.wrap (x * (2 ^ (min (IntKind.i64.wrap (8 * p9)).toNat 8))))) (fun p8 p9=>rfl) ?_
 ·refine (congrArg (fun z=>Option.bind z _) h).trans ?_
  rfl
 ·intro acc x i hi h0 h1 hx0 hx
  have:=or_part .u8 8 (fun _=>rfl) (fun _ _=>rfl) (k:=1) (by omega) (by omega) acc x i hi h0 h1 hx0 hx;rw [show IntKind.u8.wrap x = x by rw [wrap_u8]; omega] at this;exact this
theorem u16_rd {d : List Int} (hb : Byt d) (hd : d.length≤1000000) (a : Int) : Lcodec_U16 d a = some (rdS d a 2):=by
 unfold Lcodec_U16 Lcodec_read_of_uint16;have h:=read_rd hb hd a 2 (by omega) (step:=Lcodec_read_of_uint16_s1 2 d a) (fun p8 x p9=>bits .or .u16 p8 (IntKind.u16.wrap ((IntKind.u16.wrap x) * (2 ^ (min (IntKind.i64.wrap (8 * p9)).toNat 16))))) (fun p8 p9=>rfl) (or_part .u16 16 (fun _=>rfl) (fun _ _=>rfl) (by omega) (by omega));refine (congrArg (fun z=>Option.bind z _) h).trans ?_;rfl
theorem u32_rd {d : List Int} (hb : Byt d) (hd : d.length≤1000000) (a : Int) : Lcodec_U32 d a = some (rdS d a 4):=by
 unfold Lcodec_U32 Lcodec_read_of_uint32;have h:=read_rd hb hd a 4 (by omega) (step:=Lcodec_read_of_uint32_s1 4 d a) (fun p8 x p9=>bits .or .u32 p8 (IntKind.u32.wrap ((IntKind.u32.wrap x) * (2 ^ (min (IntKind.i64.wrap (8 * p9)).toNat 32))))) (fun p8 p9=>rfl) (or_part .u32 32 (fun _=>rfl) (fun _ _=>rfl) (by omega) (by omega));refine (congrArg (fun z=>Option.bind z _) h).trans ?_;rfl
theorem u64_rd {d : List Int} (hb : Byt d) (hd : d.length≤1000000) (a : Int) : Lcodec_U64 d a = some (rdS d a 8):=by
 unfold Lcodec_U64 Lcodec_read_of_uint64;have h:=read_rd hb hd a 8 (by omega) (step:=Lcodec_read_of_uint64_s1 8 d a) (fun p8 x p9=>bits .or .u64 p8 (IntKind.u64.wrap ((IntKind.u64.wrap x) * (2 ^ (min (IntKind.i64.wrap (8 * p9)).toNat 64))))) (fun p8 p9=>rfl) (or_part .u64 64 (fun _=>rfl) (fun _ _=>rfl) (by omega) (by omega));refine (congrArg (fun z=>Option.bind z _) h).trans ?_;rfl
/-- what reading a size says -/
def sizS (d : List Int) (a m : Int) : Int×Int×Int :=
 let r:=rdS d a 1
 if ¬ (r.2.2 = 0) then (0,0,r.2.2) else if r.1 < 253 then (if m < r.1 then (0,0,4) else (r.1,r.2.1,0)) else
  let q:=rdS d r.2.1 (if r.1 = 253 then 2 else if r.1 = 254 then 4 else 8)
  if ¬ (q.2.2 = 0) then (0,0,q.2.2) else if q.1 < (if r.1 = 253 then 253 else if r.1 = 254 then 65536 else 4294967296) then (0,0,3) else if m < q.1 then (0,0,4) else (q.1,q.2.1,0)
theorem rd_range {d : List Int} (hb : Byt d) (a : Int) {k : Nat} (hk : k≤8) : 0≤(rdS d a k).1∧(rdS d a k).1 < 256 ^ k:=by
 have hp : (1 : Int)≤256 ^ k:=by have:=@pow256_le 0 k (by omega); simpa using this
 unfold rdS;split
 ·simp; omega
 ·split
  ·simp; omega
  ·have hr:=leV_range _ (byt_part hb a.toNat k)
   rwa [part_len (by omega)] at hr
theorem size_k1 (m a e v l : Int) : Lcodec_Size_k1 m a e v l = some (if ¬ (e = 0) then (0,0,e) else if v < l then (0,0,3) else if m < v then (0,0,4) else (v,a,0)):=by
 unfold Lcodec_Size_k1;split
 ·rfl
 ·split
  ·rfl
  ·split <;> rfl
theorem csize_eq {d : List Int} (hb : Byt d) (hd : d.length≤1000000) (a m : Int) : Lcodec_Size d a m = some (sizS d a m):=by
 unfold Lcodec_Size sizS;rw [u8_rd hb hd,bind_some'];have hr:=rd_range hb a (k:=1) (by omega);generalize rdS d a 1 = r at hr ⊢;obtain ⟨v,a1,e⟩:=r;dsimp only at hr ⊢;simp only [Int.pow_succ,Int.pow_zero] at hr;by_cases he : e = 0
 ·subst he
  simp only [not_true_eq_false,if_false];by_cases h3 : v = 253
  ·subst h3
   have hq:=rd_range hb a1 (k:=2) (by omega);simp only [Int.pow_succ,Int.pow_zero] at hq;rw [if_pos rfl,u16_rd hb hd,bind_some',size_k1,wu _ (by omega)];simp
  ·by_cases h4 : v = 254
   ·subst h4
    have hq:=rd_range hb a1 (k:=4) (by omega);simp only [Int.pow_succ,Int.pow_zero] at hq;rw [if_neg (by omega),if_pos rfl,u32_rd hb hd,bind_some',size_k1,wu _ (by omega)];simp
   ·by_cases h5 : v = 255
    ·subst h5
     rw [if_neg (by omega),if_neg (by omega),if_pos rfl,u64_rd hb hd,bind_some',size_k1];simp
    ·rw [if_neg h3,if_neg h4,if_neg h5,size_k1,wu _ (by omega),if_pos (show v < 253 by omega)]
     simp only [not_true_eq_false,if_false];rw [if_neg (by omega)]
 ·rw [if_pos he,if_pos he]
theorem rsize_rd {d : List Int} (hb : Byt d) (hd : d.length≤1000000) (a m : Int) : Lref01_Size d a m = some (sizS d a m):=by
 unfold Lref01_Size sizS;have h1:=number_rd hb hd a 1 (by omega) (by omega);rw [show ((1 : Nat) : Int) = 1 from rfl] at h1;rw [h1,bind_some'];have hr:=rd_range hb a (k:=1) (by omega);generalize rdS d a 1 = r at hr ⊢;obtain ⟨v,a1,e⟩:=r;dsimp only at hr ⊢;simp only [Int.pow_succ,Int.pow_zero] at hr;by_cases he : e = 0
 ·subst he
  simp only [not_true_eq_false,if_false];by_cases hlt : v < 253
  ·rw [if_neg (show ¬ (253≤v) by omega),if_pos hlt]
   unfold Lref01_Size_k1;split <;> rfl
  ·rw [if_pos (show 253≤v by omega),if_neg hlt,chk_bind (by rw [wu _ (by omega)]; omega),wu _ (by omega)]
   have hv : v = 253∨v = 254∨v = 255:=by omega
   rcases hv with rfl | rfl | rfl
   ·rw [show IntKind.i64.wrap (2 * 2 ^ (min ((253 : Int) - 253).toNat 64)) = ((2 : Nat) : Int) from rfl,number_rd hb hd a1 2 (by omega) (by omega),bind_some']
    simp only [Int.reduceEq,if_true,if_false];generalize rdS d a1 2 = q;obtain ⟨w,a2,f⟩:=q;simp only [Lref01_Size_k1];simp
    split
    ·split
     ·rfl
     ·split <;> rfl
    ·rfl
   ·rw [show IntKind.i64.wrap (2 * 2 ^ (min ((254 : Int) - 253).toNat 64)) = ((4 : Nat) : Int) from rfl,number_rd hb hd a1 4 (by omega) (by omega),bind_some']
    simp only [Int.reduceEq,if_true,if_false];generalize rdS d a1 4 = q;obtain ⟨w,a2,f⟩:=q;simp only [Lref01_Size_k1];simp
    split
    ·split
     ·rfl
     ·split <;> rfl
    ·rfl
   ·rw [show IntKind.i64.wrap (2 * 2 ^ (min ((255 : Int) - 253).toNat 64)) = ((8 : Nat) : Int) from rfl,number_rd hb hd a1 8 (by omega) (by omega),bind_some']
    simp only [Int.reduceEq,if_true,if_false];generalize rdS d a1 8 = q;obtain ⟨w,a2,f⟩:=q;simp only [Lref01_Size_k1];simp
    split
    ·split
     ·rfl
     ·split <;> rfl
    ·rfl
 ·rw [if_pos he,if_pos he]
end Go.Lc
end
section
/- filters and their encodings,both sides; there and back -/
namespace Go.Lc
open Go.RowKit
open Go.Av
set_option linter.unusedVariables false
set_option linter.unusedSimpArgs false
set_option maxRecDepth 100000

theorem rd_ok {d : List Int} {a : Int} {k : Nat} {v a' : Int} (h : rdS d a k = (v,a',0)) : ∃ n : Nat,a = n∧n + k≤d.length∧a' = ((n + k : Nat) : Int)∧v = leV ((d.drop n).take k):=by
 unfold rdS at h;split at h
 ·simp at h
 ·split at h
  ·simp at h
  ·simp only [Prod.mk.injEq] at h
   refine ⟨a.toNat,by omega,by omega,by omega,h.1.symm⟩
theorem part_two {d : List Int} {a j k : Nat} (h : a + j + k≤d.length) : (d.drop a).take (j + k) = (d.drop a).take j++(d.drop (a + j)).take k:=by
 rw [List.take_add,List.drop_drop]
theorem part_one {d : List Int} (hb : Byt d) {a : Nat} (h : a + 1≤d.length) : (d.drop a).take 1 = [leV ((d.drop a).take 1)]:=by
 have:=lowB_leV _ (byt_part hb a 1);rw [part_len h] at this;have hr:=leV_range _ (byt_part hb a 1);rw [part_len h] at hr;simp only [Int.pow_succ,Int.pow_zero] at hr;rw [← this];rw [lowB_succ _ hr.1];simp only [leV,lowB,List.range_zero,List.map_nil]
 congr 1
 omega
theorem part_low {d : List Int} (hb : Byt d) {a k : Nat} (h : a + k≤d.length) : lowB (leV ((d.drop a).take k)) k = (d.drop a).take k:=by
 have:=lowB_leV _ (byt_part hb a k)
 rwa [part_len h] at this
theorem siz_ok {d : List Int} (hb : Byt d) {a m v a' : Int} (h : sizS d a m = (v,a',0)) : ∃ n : Nat,a = n∧n + (sizeB v).length≤d.length∧a' = ((n + (sizeB v).length : Nat) : Int)∧(d.drop n).take (sizeB v).length = sizeB v∧0≤v∧v≤m∧v≤18446744073709551615:=by
 unfold sizS at h;have hr:=rd_range hb a (k:=1) (by omega);have hok:=@rd_ok d a 1;generalize rdS d a 1 = r at h hr hok;obtain ⟨w,a1,e⟩:=r;dsimp only at h hr;simp only [Int.pow_succ,Int.pow_zero] at hr;by_cases he : e = 0
 case neg=>rw [if_pos he] at h; simp at h; exact absurd h.2.2 he
 subst he;obtain ⟨n,rfl,hn,rfl,hw⟩:=hok rfl;rw [if_neg (by simp)] at h;by_cases hlt : w < 253
 ·rw [if_pos hlt] at h
  by_cases hm : m < w
  ·rw [if_pos hm] at h; simp at h
  rw [if_neg hm] at h;simp only [Prod.mk.injEq,and_true] at h;obtain ⟨rfl,rfl⟩:=h;have e : sizeB w = lowB w 1:=by rw [sizeB,if_pos hlt]
  refine ⟨n,rfl,by rw [e]; simpa using hn,by rw [e]; simp,?_,hr.1,by omega,by omega⟩;rw [e,lowB_len,hw,part_low hb hn]
 ·rw [if_neg hlt] at h
  have key : ∀ (k : Nat) (l f : Int),k≤8→(w = f)→(if w = 253 then 2 else if w = 254 then 4 else 8) = k→(if w = 253 then (253 : Int) else if w = 254 then 65536 else 4294967296) = l→(∀ z : Int,l≤z→z < 256 ^ k→sizeB z = f :: lowB z k)→∃ n' : Nat,(n : Int) = n'∧n' + (sizeB v).length≤d.length∧a' = ((n' + (sizeB v).length : Nat) : Int)∧(d.drop n').take (sizeB v).length = sizeB v∧0≤v∧v≤m∧v≤18446744073709551615:=by
   intro k l f hk hf hk2 hl2 hz;rw [hk2,hl2] at h;have hq:=rd_range hb ((n + 1 : Nat) : Int) (k:=k) hk;have hqo:=@rd_ok d ((n + 1 : Nat) : Int) k;generalize rdS d ((n + 1 : Nat) : Int) k = q at h hq hqo;obtain ⟨z,a2,e⟩:=q;dsimp only at h hq;by_cases he : e = 0
   case neg=>rw [if_pos he] at h; simp at h; exact absurd h.2.2 he
   subst he;rw [if_neg (by simp)] at h;by_cases h3 : z < l
   ·rw [if_pos h3] at h; simp at h
   rw [if_neg h3] at h;by_cases h4 : m < z
   ·rw [if_pos h4] at h; simp at h
   rw [if_neg h4] at h;simp only [Prod.mk.injEq,and_true] at h;obtain ⟨rfl,rfl⟩:=h;obtain ⟨n2,e2,hn2,ha2,hz2⟩:=hqo rfl;obtain rfl : n + 1 = n2:=by omega
   have es:=hz z (by omega) hq.2;have h8:=pow256_le hk;have h88 : (256 : Int) ^ 8 = 18446744073709551616:=by decide
   refine ⟨n,rfl,by rw [es]; simp; omega,by rw [es,ha2]; simp; omega,?_,hq.1,by omega,by omega⟩;rw [es,List.length_cons,lowB_len,Nat.add_comm k 1,part_two (by omega),part_one hb hn,← hw,hz2,part_low hb hn2,hf];rfl
  by_cases h3 : w = 253
  ·exact key 2 253 253 (by omega) h3 (by rw [if_pos h3]) (by rw [if_pos h3]) fun z h1 h2=>by
    simp only [Int.pow_succ,Int.pow_zero] at h2;rw [sizeB,if_neg (by omega),if_pos (by omega)]
  ·by_cases h4 : w = 254
   ·exact key 4 65536 254 (by omega) h4 (by rw [if_neg h3,if_pos h4]) (by rw [if_neg h3,if_pos h4]) fun z h1 h2=>by
     simp only [Int.pow_succ,Int.pow_zero] at h2;rw [sizeB,if_neg (by omega),if_neg (by omega),if_pos (by omega)]
   ·exact key 8 4294967296 255 (by omega) (by omega) (by rw [if_neg h3,if_neg h4]) (by rw [if_neg h3,if_neg h4]) fun z h1 h2=>by
     rw [sizeB,if_neg (by omega),if_neg (by omega),if_neg (by omega)]
/-- what reading bytes with their size says -/
def bytS (d : List Int) (a m : Int) : List Int×Int×Int :=
 let s:=sizS d a m
 if ¬ (s.2.2 = 0) then ([],0,s.2.2) else if (d.length : Int) - s.2.1 < s.1 then ([],0,1) else ((d.take (s.2.1 + s.1).toNat).drop s.2.1.toNat,s.2.1 + s.1,0)
theorem cbytes_eq {d : List Int} (hb : Byt d) (hd : d.length≤1000000) (a : Int) {m : Int} (hm : 0≤m∧m≤1000000) : Lcodec_Bytes d a m = some (bytS d a m)∧Lref01_Bytes d a m = some (bytS d a m):=by
 unfold Lcodec_Bytes Lref01_Bytes bytS;rw [if_neg (show ¬ m < 0 by omega),if_neg (show ¬ m < 0 by omega),wu m (by omega),csize_eq hb hd,rsize_rd hb hd,bind_some',bind_some'];have hok:=@siz_ok d hb a m;generalize sizS d a m = s at hok ⊢;obtain ⟨v,a1,e⟩:=s;dsimp only;by_cases he : e = 0
 case neg=>rw [if_pos he,if_pos he,if_pos he]; exact ⟨rfl,rfl⟩
 subst he;obtain ⟨n,rfl,hn,ha1,hs,hv0,hvm,hv⟩:=hok rfl;simp only [not_true_eq_false,if_false];have hl:=sizeB_len v;rw [wi ((d.length : Int) - a1) (by omega),wu ((d.length : Int) - a1) (by omega),wi v (by omega),wi (a1 + v) (by omega)];by_cases hlt : (d.length : Int) - a1 < v
 ·simp only [if_pos hlt]
  exact ⟨trivial,trivial⟩
 simp only [if_neg hlt];rw [chk_bind (by omega),chk_bind (by omega),extend_eq (by simp; omega),joined_eq (by simp; omega),bind_some',bind_some',List.append_nil,List.nil_append];exact ⟨rfl,rfl⟩
theorem cend_eq (d : List Int) (a : Int) : Lcodec_End d a = some (if a < 0∨(d.length : Int) < a then 5 else if a < d.length then 2 else 0)∧Lref01_End d a = some (if a < 0∨(d.length : Int) < a then 5 else if a < d.length then 2 else 0):=by
 unfold Lcodec_End Lref01_End;split
 ·exact ⟨rfl,rfl⟩
 ·split <;> exact ⟨rfl,rfl⟩
/-- the filter of an encoding -/
def decF (d : List Int) : Tapi_Filter×Int :=
 let s:=sizS d 0 4096
 if ¬ (s.2.2 = 0) then ((0,[]),s.2.2) else
  let b:=bytS d s.2.1 200000
  if ¬ (b.2.2 = 0) then ((0,[]),b.2.2) else
   if b.2.1 < 0∨(d.length : Int) < b.2.1 then ((0,[]),5) else if b.2.1 < d.length then ((0,[]),2) else ((s.1,b.1),0)
theorem fdec_eq {d : List Int} (hb : Byt d) (hd : d.length≤1000000) : Lfilter_Decode d = some (decF d)∧Lref20_Decode d = some (decF d):=by
 unfold Lfilter_Decode Lref20_Decode decF;rw [csize_eq hb hd,rsize_rd hb hd,bind_some',bind_some'];have hok:=@siz_ok d hb 0 4096;generalize sizS d 0 4096 = s at hok ⊢;obtain ⟨v,a1,e⟩:=s;dsimp only;by_cases he : e = 0
 case neg=>rw [if_pos he,if_pos he,if_pos he]; exact ⟨rfl,rfl⟩
 subst he;obtain ⟨n,-,hn,ha1,hs,hv0,hvm,hv⟩:=hok rfl;simp only [not_true_eq_false,if_false];obtain ⟨b1,b2⟩:=cbytes_eq hb hd a1 (m:=200000) (by omega);rw [b1,b2,bind_some',bind_some',wi v (by omega)];generalize bytS d a1 200000 = b;obtain ⟨x,a2,f⟩:=b;simp only [Lref20_Decode_k1];by_cases hf : f = 0
 case neg =>
  simp only [if_neg hf,if_pos hf];exact ⟨trivial,trivial⟩
 subst hf;simp only [not_true_eq_false,if_false,if_true];obtain ⟨e1,e2⟩:=cend_eq d a2;rw [e1,e2,bind_some',bind_some',wi v (by omega)];by_cases c1 : a2 < 0∨(d.length : Int) < a2
 ·simp only [if_pos c1]
  exact ⟨rfl,rfl⟩
 simp only [if_neg c1];by_cases c2 : a2 < (d.length : Int)
 ·simp only [if_pos c2]
  exact ⟨rfl,rfl⟩
 simp only [if_neg c2];exact ⟨rfl,rfl⟩
/-! the laws -/
theorem sizeB_byt {n : Int} : Byt (sizeB n):=by
 unfold sizeB;split
 ·exact lowB_byt _ _
 ·split
  ·intro x hx
   simp only [List.mem_cons] at hx;rcases hx with rfl | hx
   ·omega
   ·exact lowB_byt _ _ x hx
  ·split
   ·intro x hx
    simp only [List.mem_cons] at hx;rcases hx with rfl | hx
    ·omega
    ·exact lowB_byt _ _ x hx
   ·intro x hx
    simp only [List.mem_cons] at hx;rcases hx with rfl | hx
    ·omega
    ·exact lowB_byt _ _ x hx
theorem byt_app {a b : List Int} (ha : Byt a) (hb : Byt b) : Byt (a++b):=fun x hx=>(List.mem_append.1 hx).elim (ha x) (hb x)
theorem encF_byt {f : Tapi_Filter} (hb : Byt f.2) : Byt (encF f).1:=by
 unfold encF;split
 ·intro x hx; cases hx
 ·exact byt_app sizeB_byt (byt_app sizeB_byt hb)
theorem const_true : Lconst_true = some true:=rfl
theorem filterEncodes (f : Tapi_Filter) (d : List Int) (x y : Arr 32) (hf : ∀ a∈f.2,0≤a∧a≤255) (hd : ∀ a∈d,0≤a∧a≤255) : Llaw20_FilterEncodes_c f d x y = some true:=by
 unfold Llaw20_FilterEncodes_c;rw [const_true,bind_some',if_neg (by simp)];by_cases hl : 1000 < (f.2.length : Int)∨1000 < (d.length : Int)
 ·rw [if_pos hl]
 obtain ⟨d1,d2⟩:=fdec_eq hd (by omega);have hB:=encF_byt hf;rw [if_neg hl,fenc_eq,rfenc_eq,d1,d2,fhash_eq,rfhash_eq,header_eq,rheader_eq];simp only [bind_some',if_true,rsame_eq hB hB,same_refl,and_self,decide_true,Bool.and_self]
end Go.Lc
end
section
/- Replacement: acceptance,the program's and the reference's. -/
namespace Go.Lc
open Go.RowKit
open Go.Av
set_option linter.unusedVariables false

end Go.Lc
end
section
/- Replacement: acceptance,the program's and the reference's are the same. -/
namespace Go.Lc
open Go.RowKit
open Go.Av
set_option linter.unusedVariables false

section
variable {l : List Tapi_Entry} {t : Tapi_Tx} {f : Int}
end
end Go.Lc
end
