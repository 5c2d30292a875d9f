import Derived.Test.YtjdoijdjeapekaaLcG3
import Derived.Test.YtjdoijdjeapekaaLcG1
import Derived.KernelRfl
section
/- What is drawn from lists of numbers is always something; law 34,weights. -/
namespace Go.Lc
open Go.RowKit
open Go.Av
set_option linter.unusedVariables false

/-- what a loop's step leads to -/
def Nx {σ ρ : Type} (I : Nat→σ→Prop) (Q : ρ→Prop) (n : Nat) : σ ⊕ ρ→Prop
 | .inl s=>∃ j,j < n∧I j s
 | .inr r=>Q r
theorem tot_loop {σ ρ : Type} {step : σ→Option (σ ⊕ ρ)} {I : Nat→σ→Prop} {Q : ρ→Prop} (h : ∀ n s,I n s→Tot (step s) (Nx I Q n)) {n : Nat} {s : σ} (hs : I n s) : Tot (runLoop step s) Q:=by
 refine runLoop_inv I Q (fun i s hi=>?_) n s hs;obtain ⟨x,h1,h2⟩:=h i s hi;cases x with
 | inl s' =>
  obtain ⟨j,hj,h3⟩:=h2;exact .inl ⟨j,s',hj,h1,h3⟩
 | inr r=>exact .inr ⟨r,h1,h2⟩
theorem Tot.out {σ ρ : Type} {I : Nat→σ→Prop} {Q : ρ→Prop} {n : Nat} {x : Option ρ} (h : Tot x Q) : Tot (x.map .inr) (Nx I Q n):=by
 obtain ⟨r,rfl,h⟩:=h;exact ⟨_,rfl,h⟩
theorem tot_chk {α : Type} {p : Prop} [Decidable p] {f : Unit→Option α} {Q : α→Prop} (hp : p) (h : Tot (f ()) Q) : Tot ((chk p).bind f) Q:=by rw [chk_bind hp]; exact h
theorem tot_idx {α β : Type} {l : List α} {i : Int} {f : α→Option β} {Q : β→Prop} (h0 : 0≤i) (h1 : i < l.length) (h : ∀ x∈l,Tot (f x) Q) : Tot ((idx l i).bind f) Q:=by
 obtain ⟨n,rfl⟩:=Int.eq_ofNat_of_zero_le h0;rw [idx_bind (by omega)];exact h _ (List.getElem_mem _)
/-! remainders -/
def modS (v n : Int) : Int:=if v.tmod n < 0 then v.tmod n + n else v.tmod n
theorem modS_in (v : Int) {n : Int} (h : 1≤n) : 0≤modS v n∧modS v n < n:=by
 have h1:=Int.tmod_lt_of_pos v (b:=n) (by omega)
 have h2 : -n < v.tmod n:=by
  have:=Int.lt_tmod_of_pos v (b:=n) (by omega);omega
 unfold modS;split <;> omega
theorem mod_eq (v : Int) {n : Int} (h : 1≤n) (h2 : n≤4611686018427387904) : Lmill_Mod v n = some (modS v n):=by
 have h1:=modS_in v h;unfold Lmill_Mod Lmill_Mod_k1;rw [chk_bind (by omega)];unfold modS at *;split
 ·rename_i hn
  rw [if_pos hn] at h1;rw [wi _ (by omega)]
 ·rfl

/-! decks -/
def DeckOk (d : Tlightclientmill_Deck) : Prop:=0≤d.2∧d.2≤d.1.length∧d.1.length≤9223372036854775807
theorem next_tot {d : Tlightclientmill_Deck} (h : DeckOk d) {n : Int} (hn : 1≤n) (hn2 : n≤4611686018427387904) : Tot (Lmill_Deck_Next d n) fun r=>(0≤r.1∧r.1 < n)∧DeckOk r.2:=by
 obtain ⟨h1,h2,h3⟩:=h;unfold Lmill_Deck_Next Lmill_Deck_Left;rw [bind_some'];by_cases hl : d.2 < d.1.length
 ·rw [if_neg (by simp [hl])]
  dsimp only;rw [wi (d.2 + 1) (by omega),wi _ (by omega),show d.2 + 1 - 1 = d.2 by omega];refine tot_idx h1 hl fun x _=>?_
  rw [mod_eq x hn hn2];exact tot_some ⟨modS_in x hn,by dsimp only; omega,by dsimp only; omega,h3⟩
 ·rw [if_pos (by simp [hl])]
  exact tot_some ⟨⟨by dsimp only; omega,by dsimp only; omega⟩,h1,h2,h3⟩
theorem range_tot {d : Tlightclientmill_Deck} (h : DeckOk d) {a b : Int} (ha : 0≤a) (hab : a≤b) (hb : b≤1000000000) : Tot (Lmill_Deck_Range d a b) fun r=>(a≤r.1∧r.1≤b)∧DeckOk r.2:=by
 unfold Lmill_Deck_Range;rw [wi (b - a) (by omega),wi _ (by omega)];refine (next_tot h (by omega) (by omega)).bind fun r hr=>?_
 rw [wi _ (by omega)];exact tot_some ⟨by dsimp only; omega,hr.2⟩
theorem script_eq (j : Int) : Lmade_Script j = some [1,1,IntKind.u8.wrap (1 + j.tmod 6),5]:=rfl

/-! law 34: fees and weights -/
def bareS (t : Tapi_Tx) : Tapi_Tx:=(t.1,t.2.1.map fun x=>(x.1,x.2.1,[]),t.2.2.1,t.2.2.2)
def sumW (n : Int) (l : List Tapi_Spendable) : Int:=l.foldl (fun n x=>IntKind.i64.wrap (n + x.2)) n
theorem foldl_take {α β : Type} {l : List α} (f : β→α→β) (b : β) {i : Nat} (h : i < l.length) : (l.take (i + 1)).foldl f b = f ((l.take i).foldl f b) l[i]:=by
 rw [List.take_succ_eq_append_getElem h,List.foldl_append];rfl
theorem map_set_take {α : Type} {l : List α} (f : α→α) {i : Nat} (h : i < l.length) : ((l.take i).map f++l.drop i).set i (f l[i]) = (l.take (i + 1)).map f++l.drop (i + 1):=by
 rw [List.set_append_right _ _ (by simp; omega),List.drop_eq_getElem_cons h];simp only [List.length_map,List.length_take];rw [show i - min i l.length = 0 by omega,List.set_cons_zero,List.take_succ_eq_append_getElem h,List.map_append,List.append_assoc];rfl
theorem bweight_eq {t : Tapi_Tx} {l : List Tapi_Spendable} (h1 : t.2.1.length≤1000000) (h2 : l.length≤1000000) : Lbuild_Weight t l = some (sumW (weightS (bareS t)) l):=by
 unfold Lbuild_Weight Lslices_Clone_of__api_Input_api_Input;rw [chk_bind (by omega),bind_some']
 have hk1 : Lbuild_Weight_k1 t (t.2.1.map fun x=>(x.1,x.2.1,[])) l = some (sumW (weightS (bareS t)) l):=by
  unfold Lbuild_Weight_k1;rw [tx_weight,bind_some']
  have:=runLoop_to (step:=Lbuild_Weight_s2 l) (fun i=>(sumW (weightS (bareS t)) (l.take i),(i : Int))) l.length (x:=some (sumW (weightS (bareS t)) l)) (fun i hi=>by
   simp only [Lbuild_Weight_s2];rw [if_pos (by omega),idx_bind hi,wi_succ hi (by omega)];unfold sumW;rw [foldl_take _ _ hi]) (by
   simp only [Lbuild_Weight_s2];rw [if_neg (by omega)]
   simp [Lbuild_Weight_k2])
  simpa [sumW,bareS] using this
 have:=runLoop_to (step:=Lbuild_Weight_s1 t.2.1 t l) (fun i=>((i : Int),(t.2.1.take i).map (fun x=>(x.1,x.2.1,([] : List (List Int))))++t.2.1.drop i)) t.2.1.length (x:=some (sumW (weightS (bareS t)) l)) (fun i hi=>by
  simp only [Lbuild_Weight_s1];have hlen : ((t.2.1.take i).map (fun x=>(x.1,x.2.1,([] : List (List Int))))++t.2.1.drop i).length = t.2.1.length:=by simp; omega
  have hget : ((t.2.1.take i).map (fun x=>(x.1,x.2.1,([] : List (List Int))))++t.2.1.drop i)[i]? = some t.2.1[i]:=by
   rw [List.getElem?_append_right (by simp; omega)];simp [Nat.min_eq_left (Nat.le_of_lt hi),hi]
  rw [if_pos (by omega),hlen,inA_bind hi,hget,bind_some',wi_succ hi (by omega),map_set_take (fun x : Tapi_Input=>(x.1,x.2.1,([] : List (List Int)))) hi]) (by
  simp only [Lbuild_Weight_s1];rw [if_neg (by omega)]
  simp only [List.take_length,List.drop_length,List.append_nil,hk1])
 simpa using this
theorem sane34 : Llaw34_sane = some true:=by
 simp [Llaw34_sane,Lbuild_Fee,Lbuild_InputWeight]
 decide
end Go.Lc
end
section
/- Transactions alone and with their coins: the program's tests and the reference's are the same; law 34,plans. -/
namespace Go.Lc
open Go.RowKit
open Go.Av
set_option linter.unusedVariables false

/-- a loop that stops at the first bad place; nothing before it was bad -/
theorem scan_pre {σ ρ : Type} {step : σ→Option (σ ⊕ ρ)} (enc : Nat→σ) (n : Nat) (bad : Nat→Prop) (rb x : Option ρ) [inst : Decidable (∃ i,i < n∧bad i)] (h : ∀ i,i < n→(∀ j,j < i→¬ bad j)→¬ bad i→step (enc i) = some (.inl (enc (i + 1)))) (hb : ∀ i,i < n→(∀ j,j < i→¬ bad j)→bad i→step (enc i) = rb.map .inr) (he : (∀ j,j < n→¬ bad j)→step (enc n) = x.map .inr) {s : σ} (hs : s = enc 0) : runLoop step s = if ∃ i,i < n∧bad i then rb else x:=by
 subst hs;by_cases hx : ∃ i,i < n∧bad i
 ·rw [if_pos hx]
  obtain ⟨m,hm,hbm,hmin⟩:=least_bad bad n hx;exact runLoop_to enc m (fun i hi=>h i (by omega) (fun j hj=>hmin j (by omega)) (hmin i hi)) (hb m hm hmin hbm)
 ·rw [if_neg hx]
  have hn : ∀ i,i < n→¬ bad i:=fun i hi hbi=>hx ⟨i,hi,hbi⟩
  exact runLoop_to enc n (fun i hi=>h i hi (fun j hj=>hn j (by omega)) (hn i hi)) (he hn)

/-! sums -/
def sumI : List Int→Int
 | []=>0
 | a :: l=>a + sumI l
theorem sumI_app (l m : List Int) : sumI (l++m) = sumI l + sumI m:=by
 induction l with
 | nil=>simp [sumI]
 | cons a l ih=>simp only [List.cons_append,sumI,ih]; omega
theorem sumI_take {l : List Int} {i : Nat} (h : i < l.length) : sumI (l.take (i + 1)) = sumI (l.take i) + l[i]:=by
 rw [List.take_succ_eq_append_getElem h,sumI_app];simp [sumI]
theorem sumI_pos {l : List Int} (h : ∀ v∈l,0≤v) : 0≤sumI l:=by
 induction l with
 | nil=>simp [sumI]
 | cons a l ih =>
  have h1:=h a (by simp);have h2:=ih fun v hv=>h v (by simp [hv])
  simp only [sumI];omega
theorem sumI_mono {l : List Int} (h : ∀ v∈l,0≤v) (i : Nat) : sumI (l.take i)≤sumI l:=by
 have h1 : sumI l = sumI (l.take i) + sumI (l.drop i):=by rw [← sumI_app,List.take_append_drop]
 have h2:=sumI_pos (l:=l.drop i) fun v hv=>h v (List.mem_of_mem_drop hv)
 omega
theorem sumI_le {l : List Int} {c : Int} (h : ∀ v∈l,v≤c) : sumI l≤l.length * c:=by
 induction l with
 | nil=>simp [sumI]
 | cons a l ih =>
  have h1:=h a (by simp);have h2:=ih fun v hv=>h v (by simp [hv])
  simp only [sumI,List.length_cons];have : ((l.length + 1 : Nat) : Int) * c = (l.length : Int) * c + c:=by rw [Int.natCast_add,Int.add_mul]; simp
  omega
theorem sum_bad (vs : List Int) (M : Int) (hM : 0≤M) : (∃ i,i < vs.length∧∃ h : i < vs.length,vs[i] < 0∨M < sumI (vs.take (i + 1)))↔(∃ v∈vs,v < 0∨M < v)∨M < sumI vs:=by
 by_cases hneg : ∃ v∈vs,v < 0
 ·obtain ⟨v,hv,hv0⟩:=hneg
  obtain ⟨i,hi,rfl⟩:=List.getElem_of_mem hv;exact ⟨fun _=>.inl ⟨_,hv,.inl hv0⟩,fun _=>⟨i,hi,hi,.inl hv0⟩⟩
 ·have hp : ∀ v∈vs,0≤v:=fun v hv=>by
   have : ¬ v < 0:=fun h=>hneg ⟨v,hv,h⟩
   omega
  constructor
  ·rintro ⟨i,_,hi,hb⟩
   have h1:=hp _ (List.getElem_mem hi);have h2:=sumI_mono hp (i + 1);exact .inr (by omega)
  ·intro h
   have key : M < sumI vs→∃ i,i < vs.length∧∃ h : i < vs.length,vs[i] < 0∨M < sumI (vs.take (i + 1)):=by
    intro hs
    have hn : 0 < vs.length:=by
     rcases Nat.eq_zero_or_pos vs.length with h0 | h0
     ·have:=List.length_eq_zero_iff.1 h0
      subst this;simp only [sumI] at hs;omega
     ·exact h0
    refine ⟨vs.length - 1,by omega,by omega,.inr ?_⟩;rw [show vs.length - 1 + 1 = vs.length by omega,List.take_length];exact hs
   rcases h with ⟨v,hv,hb⟩ | hs
   ·have h0:=hp v hv
    obtain ⟨i,hi,rfl⟩:=List.getElem_of_mem hv;refine ⟨i,hi,hi,.inr ?_⟩;rw [sumI_take hi];have:=sumI_pos (l:=vs.take i) fun v hv=>hp v (List.mem_of_mem_take hv)
    omega
   ·exact key hs

/-! points already seen -/
theorem mget_mput {K V : Type} [DecidableEq K] (k a : K) (v : V) (l : List (K×V)) : mget k (mput a v l) = if k = a then some v else mget k l:=by
 induction l with
 | nil=>simp [mput,mget]
 | cons x l ih =>
  obtain ⟨b,w⟩:=x;simp only [mput];by_cases h : a = b
  ·subst h
   rw [if_pos rfl];simp only [mget];by_cases hk : k = a <;> simp [hk]
  ·rw [if_neg h]
   simp only [mget,ih];by_cases hk : k = b
   ·subst hk
    simp [Ne.symm h]
   ·simp [hk]
def seen (l : List Tapi_OutPoint) : List (Tapi_OutPoint×Bool):=l.foldl (fun m p=>mput p true m) []
theorem seen_get (k : Tapi_OutPoint) (l : List Tapi_OutPoint) : ((mget k (seen l)).getD false = true)↔k∈l:=by
 have key : ∀ (l : List Tapi_OutPoint) (m : List (Tapi_OutPoint×Bool)),((mget k (l.foldl (fun m p=>mput p true m) m)).getD false = true)↔(k∈l∨(mget k m).getD false = true):=by
  intro l;induction l with
  | nil=>intro m; simp
  | cons a l ih =>
   intro m;rw [List.foldl_cons,ih,mget_mput];by_cases h : k = a
   ·simp [h]
   ·simp [h]
 have:=key l [];simpa [seen,mget] using this
theorem seen_take {l : List Tapi_OutPoint} {i : Nat} (h : i < l.length) : seen (l.take (i + 1)) = mput l[i] true (seen (l.take i)):=by
 unfold seen;rw [List.take_succ_eq_append_getElem h,List.foldl_append];rfl

/-! one transaction alone -/
abbrev nullP : Tapi_OutPoint:=(zA 32,4294967295)
def cbS (t : Tapi_Tx) : Bool:=match t.2.1 with
 | [x]=>decide (x.1 = nullP)
 | _=>false
theorem cb_eq (t : Tapi_Tx) : Ltx_Coinbase t = some (cbS t):=by
 obtain ⟨a,ins,outs,l⟩:=t;unfold Ltx_Coinbase Ltx_null cbS
 match ins with
 | []=>simp
 | [x]=>simp [Prod.ext_iff]
 | x :: y :: l =>
  have : ¬ ((x :: y :: l).length : Int) = 1:=by simp only [List.length_cons]; omega
  dsimp only;simp only [if_neg this,decide_eq_false this];rfl
theorem rcb_eq (t : Tapi_Tx) : Lref09_Coinbase t = some (cbS t):=by
 rw [← cb_eq];rfl
def valsS (t : Tapi_Tx) : List Int:=t.2.2.1.map Prod.fst
def ptsS (t : Tapi_Tx) : List Tapi_OutPoint:=t.2.1.map Prod.fst
def dupS (l : List Tapi_OutPoint) : Prop:=∃ i,i < l.length∧∃ h : i < l.length,l[i]∈l.take i
noncomputable def checkS (t : Tapi_Tx) : Int:=by
 classical exact if ¬ fitsS t = true then 4 else if t.2.1.length = 0∨t.2.2.1.length = 0 then 93 else if (2100000000000000 : Int) < sumI (valsS t) then 90 else if dupS (ptsS t) then 91 else if nullP∈ptsS t∧¬ cbS t = true then 92 else 0
theorem fits_lim {t : Tapi_Tx} (h : fitsS t = true) : limS t:=by
 classical
 unfold fitsS at h;simp only [decide_eq_true_eq] at h;exact h.1
section
variable {t : Tapi_Tx}
theorem vals_pos (h : limS t) : ∀ v∈valsS t,0≤v:=by
 intro v hv;obtain ⟨o,ho,rfl⟩:=List.mem_map.1 hv;exact (h.2.2.1 o ho).1
theorem money_eq (h : limS t) : Ltx_money t.2.2.1 = some (decide (¬ (2100000000000000 : Int) < sumI (valsS t))):=by
 classical
 have hp:=vals_pos h;have hl : (valsS t).length = t.2.2.1.length:=by simp [valsS]
 have hget : ∀ i (h1 : i < t.2.2.1.length),(valsS t)[i]'(by omega) = (t.2.2.1[i]).1:=by intro i h1; simp [valsS]
 unfold Ltx_money;have h64:=h.2.1
 have hbnd : ∀ i,(∀ j,j < i→¬ ∃ h : j < (valsS t).length,(valsS t)[j] < 0∨(2100000000000000 : Int) < sumI ((valsS t).take (j + 1)))→i≤(valsS t).length→0≤sumI ((valsS t).take i)∧sumI ((valsS t).take i)≤(2100000000000000 : Int):=by
  intro i hj hi;refine ⟨sumI_pos fun v hv=>hp v (List.mem_of_mem_take hv),?_⟩;cases i with
  | zero=>simp [sumI]
  | succ i =>
   have:=hj i (by omega);have h2 : ¬ (2100000000000000 : Int) < sumI ((valsS t).take (i + 1)):=fun h=>this ⟨by omega,.inr h⟩
   omega
 rw [scan_pre (s:=(0,0)) (step:=Ltx_money_s1 t.2.2.1) (fun i=>(sumI ((valsS t).take i),(i : Int))) (valsS t).length (fun i=>∃ h : i < (valsS t).length,(valsS t)[i] < 0∨(2100000000000000 : Int) < sumI ((valsS t).take (i + 1))) (some false) (some true) ?_ ?_ ?_ rfl]
 ·by_cases hs : (2100000000000000 : Int) < sumI (valsS t)
  ·rw [if_pos ((sum_bad _ _ (by decide)).2 (.inr hs))]
   simp [hs]
  ·rw [if_neg]
   ·simp [hs]
   ·intro hb
    rcases (sum_bad _ _ (by decide)).1 hb with ⟨v,hv,hb⟩ | hb
    ·have h0:=hp v hv
     have:=(sum_bad (valsS t) (2100000000000000 : Int) (by decide)).2 (.inl ⟨v,hv,hb⟩);obtain ⟨i,_,hi,hb'⟩:=this;have h1:=hp _ (List.getElem_mem hi);have h2:=sumI_mono hp (i + 1);omega
    ·exact hs hb
 ·intro i hi hj hb
  have hb0:=hbnd i hj (by omega);have hb1 : ¬ (2100000000000000 : Int) < sumI ((valsS t).take (i + 1)):=fun h=>hb ⟨hi,.inr h⟩
  have h0:=hp _ (List.getElem_mem hi);have hg:=hget i (by omega);rw [sumI_take hi] at hb1;simp only [Ltx_money_s1];rw [if_pos (by omega),idx_bind (by omega),wi _ (by omega),if_neg (by omega),wi _ (by omega),wi_succ hi (by omega),sumI_take hi,hg]
 ·intro i hi hj hb
  have hb0:=hbnd i hj (by omega);obtain ⟨_,hb⟩:=hb;have h0:=hp _ (List.getElem_mem hi);have hg:=hget i (by omega);rw [sumI_take hi] at hb;simp only [Ltx_money_s1];rw [if_pos (by omega),idx_bind (by omega),wi _ (by omega),if_pos (by omega)];rfl
 ·intro hj
  simp only [Ltx_money_s1];rw [if_neg (by omega)];rfl
theorem pts_len : (ptsS t).length = t.2.1.length:=by simp [ptsS]
theorem pts_get {i : Nat} (h1 : i < t.2.1.length) (h2 : i < (ptsS t).length) : (ptsS t)[i] = (t.2.1[i]).1:=by simp [ptsS]
theorem tx_check (t : Tapi_Tx) : Ltx_Check t = some (checkS t):=by
 classical
 unfold Ltx_Check checkS;rw [tx_fits,bind_some'];by_cases hf : fitsS t = true
 ·have hlim:=fits_lim hf
  have h64:=hlim.1;have hnf : ¬ ¬ fitsS t = true:=by simp [hf]
  rw [if_neg hnf,if_neg hnf];by_cases h0 : t.2.1.length = 0∨t.2.2.1.length = 0
  ·rw [if_pos (show (t.2.1.length : Int) = 0∨(t.2.2.1.length : Int) = 0 by omega),if_pos h0]
  ·rw [if_neg (show ¬ ((t.2.1.length : Int) = 0∨(t.2.2.1.length : Int) = 0) by omega),if_neg h0,money_eq hlim,bind_some']
   by_cases hs : (2100000000000000 : Int) < sumI (valsS t)
   ·rw [if_pos (by simp [hs]),if_pos hs]
   ·rw [if_neg (by simp [hs]),if_neg hs]
    have hl:=pts_len (t:=t);rw [scan_pre (s:=(0,[])) (step:=Ltx_Check_s1 t) (fun i=>((i : Int),seen ((ptsS t).take i))) (ptsS t).length (fun i=>∃ h : i < (ptsS t).length,(ptsS t)[i]∈(ptsS t).take i) (some 91) (some (if nullP∈ptsS t∧¬ cbS t = true then 92 else 0)) ?_ ?_ ?_ rfl]
    ·by_cases hd : dupS (ptsS t)
     ·rw [if_pos (show ∃ i,i < (ptsS t).length∧∃ h : i < (ptsS t).length,(ptsS t)[i]∈(ptsS t).take i from hd),if_pos hd]
     ·rw [if_neg (show ¬ ∃ i,i < (ptsS t).length∧∃ h : i < (ptsS t).length,(ptsS t)[i]∈(ptsS t).take i from hd),if_neg hd]
    ·intro i hi _ hb
     have hg:=pts_get (t:=t) (by omega) hi;simp only [Ltx_Check_s1];rw [if_pos (by omega),idx_bind (by omega),if_neg,wi_succ hi (by omega),seen_take hi,hg];rw [← hg,seen_get];exact fun h=>hb ⟨hi,h⟩
    ·intro i hi _ hb
     have hg:=pts_get (t:=t) (by omega) hi;simp only [Ltx_Check_s1];rw [if_pos (by omega),idx_bind (by omega),if_pos]
     ·rfl
     ·rw [← hg,seen_get]
      exact hb.2
    ·intro _
     simp only [Ltx_Check_s1];rw [if_neg (by omega),List.take_length];unfold Ltx_Check_k1;rw [cb_eq];by_cases hn : nullP∈ptsS t
     ·have hn' := (seen_get _ _).2 hn
      rw [if_pos hn'];cases hc : cbS t <;> simp [hn,hn']
     ·have hn' : ¬ _:=fun h=>hn ((seen_get nullP (ptsS t)).1 h)
      rw [if_neg hn'];simp [hn,hn']
 ·rw [if_pos hf,if_pos hf]
theorem ref_dup {i : Nat} (hi : i < t.2.1.length) (h64 : t.2.1.length≤64) : (runLoop (Lref09_Check_s4 (i : Int) t) 0) = (by classical exact if ∃ h : i < (ptsS t).length,(ptsS t)[i]∈(ptsS t).take i then some (.inr 91) else some (.inl ((i + 1 : Nat) : Int))):=by
 classical
 have hl:=pts_len (t:=t);have hgi:=pts_get hi (by omega);rw [scan_pre (s:=0) (step:=Lref09_Check_s4 (i : Int) t) (fun j=>(j : Int)) i (fun j=>∃ h : j < (ptsS t).length,(ptsS t)[i]'(by omega) = (ptsS t)[j]) (some (.inr 91)) (some (.inl ((i + 1 : Nat) : Int))) ?_ ?_ ?_ rfl]
 ·have e : (∃ j,j < i∧∃ h : j < (ptsS t).length,(ptsS t)[i]'(by omega) = (ptsS t)[j])↔∃ h : i < (ptsS t).length,(ptsS t)[i]∈(ptsS t).take i:=by
   constructor
   ·rintro ⟨j,hj,hj2,e⟩
    refine ⟨by omega,?_⟩;rw [e];exact List.mem_take_iff_getElem.2 ⟨j,by omega,rfl⟩
   ·rintro ⟨h,hm⟩
    obtain ⟨j,hj,e⟩:=List.mem_take_iff_getElem.1 hm;exact ⟨j,by omega,by omega,e.symm⟩
  simp only [e]
 ·intro j hj _ hb
  have hgj:=pts_get (t:=t) (i:=j) (by omega) (by omega);simp only [Lref09_Check_s4];rw [if_pos (by omega),idx_bind (by omega),idx_bind (by omega),if_neg,wi_succ hj (by omega)];intro h;exact hb ⟨by omega,by rw [hgi,hgj]; exact Prod.ext h.1 h.2⟩
 ·intro j hj _ hb
  have hgj:=pts_get (t:=t) (i:=j) (by omega) (by omega);obtain ⟨_,hb⟩:=hb;rw [hgi,hgj] at hb;simp only [Lref09_Check_s4];rw [if_pos (by omega),idx_bind (by omega),idx_bind (by omega),if_pos ⟨congrArg Prod.fst hb,congrArg Prod.snd hb⟩];rfl
 ·intro _
  simp only [Lref09_Check_s4];rw [if_neg (by omega)];simp only [Lref09_Check_k4,wi_succ hi (by omega)]
theorem ref_null (h64 : t.2.1.length≤64) : Lref09_Check_k2 t = (by classical exact some (if nullP∈ptsS t∧¬ cbS t = true then 92 else 0)):=by
 classical
 unfold Lref09_Check_k2;have hl:=pts_len (t:=t);rw [scan_pre (s:=0) (step:=Lref09_Check_s3 t) (fun j=>(j : Int)) (ptsS t).length (fun j=>∃ h : j < (ptsS t).length,(ptsS t)[j] = nullP∧¬ cbS t = true) (some 92) (some 0) ?_ ?_ ?_ rfl]
 ·have e : (∃ j,j < (ptsS t).length∧∃ h : j < (ptsS t).length,(ptsS t)[j] = nullP∧¬ cbS t = true)↔nullP∈ptsS t∧¬ cbS t = true:=by
   constructor
   ·rintro ⟨j,_,hj,e,hc⟩
    exact ⟨e ▸ List.getElem_mem hj,hc⟩
   ·rintro ⟨hm,hc⟩
    obtain ⟨j,hj,e⟩:=List.getElem_of_mem hm;exact ⟨j,hj,hj,e,hc⟩
  simp only [e];split <;> rfl
 ·intro i hi _ hb
  have hg:=pts_get (t:=t) (by omega) hi;simp only [Lref09_Check_s3];rw [if_pos (by omega),idx_bind (by omega),rcb_eq];unfold Lref09_Null;rw [bind_some'];by_cases hn : (t.2.1[i]'(by omega)).1 = nullP
  ·have hc : cbS t = true:=Decidable.byContradiction fun h=>hb ⟨hi,by rw [hg,hn],h⟩
   rw [hn];simp [hc,wi_succ hi (show (ptsS t).length≤9223372036854775807 by omega)]
  ·have hn' : ¬ ((decide ((t.2.1[i]'(by omega)).1.1 = zA 32) && decide ((t.2.1[i]'(by omega)).1.2 = 4294967295)) = true):=by
    simp only [Bool.and_eq_true,decide_eq_true_eq];exact fun h=>hn (Prod.ext h.1 h.2)
   rw [if_neg hn',bind_some',if_neg (fun h=>hn' h.1),wi_succ hi (by omega)]
 ·intro i hi _ hb
  have hg:=pts_get (t:=t) (by omega) hi;obtain ⟨_,hb,hc⟩:=hb;rw [hg] at hb;simp only [Lref09_Check_s3];rw [if_pos (by omega),idx_bind (by omega),rcb_eq];unfold Lref09_Null;rw [bind_some',hb];simp [hc]
 ·intro _
  simp only [Lref09_Check_s3];rw [if_neg (by omega)];rfl
theorem rtx_check (t : Tapi_Tx) : Lref09_Check t = some (checkS t):=by
 classical
 unfold Lref09_Check checkS;rw [rtx_fits,bind_some'];by_cases hf : fitsS t = true
 ·have hlim:=fits_lim hf
  have h64:=hlim.1;have h65:=hlim.2.1;have hp:=vals_pos hlim;have hnf : ¬ ¬ fitsS t = true:=by simp [hf]
  rw [if_neg hnf,if_neg hnf];by_cases h0 : t.2.1.length = 0∨t.2.2.1.length = 0
  ·rw [if_pos (show (t.2.1.length : Int) = 0∨(t.2.2.1.length : Int) = 0 by omega),if_pos h0]
  ·rw [if_neg (show ¬ ((t.2.1.length : Int) = 0∨(t.2.2.1.length : Int) = 0) by omega),if_neg h0]
   have hl : (valsS t).length = t.2.2.1.length:=by simp [valsS]
   have hget : ∀ i (h1 : i < t.2.2.1.length),(valsS t)[i]'(by omega) = (t.2.2.1[i]).1:=by intro i h1; simp [valsS]
   have hk1 : Lref09_Check_k1 (sumI (valsS t)) t = some (if (2100000000000000 : Int) < sumI (valsS t) then 90 else if dupS (ptsS t) then 91 else if nullP∈ptsS t∧¬ cbS t = true then 92 else 0):=by
    unfold Lref09_Check_k1;by_cases hs : (2100000000000000 : Int) < sumI (valsS t)
    ·rw [if_pos hs,if_pos hs]
    ·rw [if_neg hs,if_neg hs]
     have hl:=pts_len (t:=t);rw [scan_pre (s:=0) (step:=Lref09_Check_s2 t) (fun i=>(i : Int)) (ptsS t).length (fun i=>∃ h : i < (ptsS t).length,(ptsS t)[i]∈(ptsS t).take i) (some 91) (some (if nullP∈ptsS t∧¬ cbS t = true then 92 else 0)) ?_ ?_ ?_ rfl]
     ·by_cases hd : dupS (ptsS t)
      ·rw [if_pos (show ∃ i,i < (ptsS t).length∧∃ h : i < (ptsS t).length,(ptsS t)[i]∈(ptsS t).take i from hd),if_pos hd]
      ·rw [if_neg (show ¬ ∃ i,i < (ptsS t).length∧∃ h : i < (ptsS t).length,(ptsS t)[i]∈(ptsS t).take i from hd),if_neg hd]
     ·intro i hi _ hb
      simp only [Lref09_Check_s2];rw [if_pos (by omega),ref_dup (by omega) h64,if_neg hb]
     ·intro i hi _ hb
      simp only [Lref09_Check_s2];rw [if_pos (by omega),ref_dup (by omega) h64,if_pos hb];rfl
     ·intro _
      simp only [Lref09_Check_s2];rw [if_neg (by omega),ref_null h64]
   have hbnd : ∀ i,(∀ j,j < i→¬ ∃ h : j < (valsS t).length,(2100000000000000 : Int) < (valsS t)[j])→i≤(valsS t).length→0≤sumI ((valsS t).take i)∧sumI ((valsS t).take i)≤i * (2100000000000000 : Int):=by
    intro i hj hi;refine ⟨sumI_pos fun v hv=>hp v (List.mem_of_mem_take hv),?_⟩
    have:=sumI_le (l:=(valsS t).take i) (c:=(2100000000000000 : Int)) (fun v hv=>by
     obtain ⟨j,hj2,rfl⟩:=List.mem_take_iff_getElem.1 hv;have h1 : ¬ (2100000000000000 : Int) < (valsS t)[j]:=fun h=>hj j (by omega) ⟨by omega,h⟩
     omega)
    rw [List.length_take,Nat.min_eq_left hi] at this;exact this
   rw [scan_pre (s:=(0,0)) (step:=Lref09_Check_s1 t) (fun i=>(sumI ((valsS t).take i),(i : Int))) (valsS t).length (fun i=>∃ h : i < (valsS t).length,(2100000000000000 : Int) < (valsS t)[i]) (some 90) (Lref09_Check_k1 (sumI (valsS t)) t) ?_ ?_ ?_ rfl]
   ·rw [hk1]
    by_cases hx : ∃ i,i < (valsS t).length∧∃ h : i < (valsS t).length,(2100000000000000 : Int) < (valsS t)[i]
    ·rw [if_pos hx]
     obtain ⟨i,_,hi,hb⟩:=hx;have h1:=sumI_mono hp (i + 1);rw [sumI_take hi] at h1;have h2:=sumI_pos (l:=(valsS t).take i) fun v hv=>hp v (List.mem_of_mem_take hv)
     rw [if_pos (by omega)]
    ·rw [if_neg hx]
   ·intro i hi hj hb
    have hb0:=hbnd i hj (by omega);have hb1 : ¬ (2100000000000000 : Int) < (valsS t)[i]:=fun h=>hb ⟨hi,h⟩
    have h0:=hp _ (List.getElem_mem hi);have hg:=hget i (by omega);have hi64 : (i : Int)≤64:=by omega
    simp only [Lref09_Check_s1];rw [if_pos (by omega),idx_bind (by omega),if_neg (by omega),wi _ (by omega),wi_succ hi (by omega),sumI_take hi,hg]
   ·intro i hi hj hb
    obtain ⟨_,hb⟩:=hb;have hg:=hget i (by omega);simp only [Lref09_Check_s1];rw [if_pos (by omega),idx_bind (by omega),if_pos (by omega)];rfl
   ·intro _
    simp only [Lref09_Check_s1];rw [if_neg (by omega),List.take_length]
 ·rw [if_pos hf,if_pos hf]
end
theorem check0 {t : Tapi_Tx} (h : checkS t = 0) : t.2.1.length≤64∧t.2.2.1.length≤64:=by
 classical
 unfold checkS at h;by_cases hf : fitsS t = true
 ·have:=fits_lim hf
  exact ⟨this.1,this.2.1⟩
 ·rw [if_pos hf] at h
  omega
/-! coins -/
def coinV (l : List Tapi_Coin) : List Int:=l.map fun c=>c.2.1.1
def sumBad (vs : List Int) : Prop:=(∃ v∈vs,v < 0∨(2100000000000000 : Int) < v)∨(2100000000000000 : Int) < sumI vs
section
variable {l : List Tapi_Coin}
theorem cv_get {i : Nat} (h1 : i < l.length) (h2 : i < (coinV l).length) : (coinV l)[i] = (l[i]).2.1.1:=by simp [coinV]
theorem spend_sum (h64 : l.length≤64) : Lspend_sum l = (by classical exact if sumBad (coinV l) then some (0,false) else some (sumI (coinV l),true)):=by
 classical
 have hl : (coinV l).length = l.length:=by simp [coinV]
 have hbnd : ∀ i,(∀ j,j < i→¬ ∃ h : j < (coinV l).length,(coinV l)[j] < 0∨(2100000000000000 : Int) < sumI ((coinV l).take (j + 1)))→i≤(coinV l).length→0≤sumI ((coinV l).take i)∧sumI ((coinV l).take i)≤(2100000000000000 : Int):=by
  intro i hj hi;refine ⟨sumI_pos fun v hv=>?_,?_⟩
  ·obtain ⟨j,hj2,rfl⟩:=List.mem_take_iff_getElem.1 hv
   have h1 : ¬ (coinV l)[j] < 0:=fun h=>hj j (by omega) ⟨by omega,.inl h⟩
   omega
  ·cases i with
   | zero=>simp [sumI]
   | succ i =>
    have h2 : ¬ (2100000000000000 : Int) < sumI ((coinV l).take (i + 1)):=fun h=>hj i (by omega) ⟨by omega,.inr h⟩
    omega
 unfold Lspend_sum;rw [scan_pre (s:=(0,0)) (step:=Lspend_sum_s1 l) (fun i=>(sumI ((coinV l).take i),(i : Int))) (coinV l).length (fun i=>∃ h : i < (coinV l).length,(coinV l)[i] < 0∨(2100000000000000 : Int) < sumI ((coinV l).take (i + 1))) (some (0,false)) (some (sumI (coinV l),true)) ?_ ?_ ?_ rfl]
 ·simp only [sum_bad (coinV l) (2100000000000000 : Int) (by decide)]
  by_cases hs : sumBad (coinV l)
  ·rw [if_pos (show (∃ v∈coinV l,v < 0∨(2100000000000000 : Int) < v)∨(2100000000000000 : Int) < sumI (coinV l) from hs),if_pos hs]
  ·rw [if_neg (show ¬ ((∃ v∈coinV l,v < 0∨(2100000000000000 : Int) < v)∨(2100000000000000 : Int) < sumI (coinV l)) from hs),if_neg hs]
 ·intro i hi hj hb
  have hb0:=hbnd i hj (by omega);have hb1 : ¬ (2100000000000000 : Int) < sumI ((coinV l).take (i + 1)):=fun h=>hb ⟨hi,.inr h⟩
  have h0 : ¬ (coinV l)[i] < 0:=fun h=>hb ⟨hi,.inl h⟩
  have hg:=cv_get (l:=l) (by omega) hi;rw [sumI_take hi] at hb1;simp only [Lspend_sum_s1];rw [if_pos (by omega),idx_bind (by omega),wi (2100000000000000 - _) (by omega),if_neg (by omega),wi _ (by omega),wi_succ hi (by omega),sumI_take hi,hg]
 ·intro i hi hj hb
  have hb0:=hbnd i hj (by omega);obtain ⟨_,hb⟩:=hb;have hg:=cv_get (l:=l) (by omega) hi;rw [sumI_take hi] at hb;simp only [Lspend_sum_s1];rw [if_pos (by omega),idx_bind (by omega),wi _ (by omega),if_pos (by omega)];rfl
 ·intro hj
  simp only [Lspend_sum_s1];rw [if_neg (by omega),List.take_length];rfl
theorem ref_sum {t : Tapi_Tx} (h64 : l.length≤64) : Lref10_Fee_k1 l t = (by classical exact if sumBad (coinV l) then some (0,90) else runLoop (Lref10_Fee_s3 t) (sumI (coinV l),0)):=by
 classical
 have hl : (coinV l).length = l.length:=by simp [coinV]
 have hbnd : ∀ i,(∀ j,j < i→¬ ∃ h : j < (coinV l).length,(coinV l)[j] < 0∨(2100000000000000 : Int) < (coinV l)[j])→i≤(coinV l).length→0≤sumI ((coinV l).take i)∧sumI ((coinV l).take i)≤i * (2100000000000000 : Int):=by
  intro i hj hi
  have hp : ∀ v∈(coinV l).take i,0≤v∧v≤(2100000000000000 : Int):=fun v hv=>by
   obtain ⟨j,hj2,rfl⟩:=List.mem_take_iff_getElem.1 hv;have h1 : ¬ (coinV l)[j] < 0:=fun h=>hj j (by omega) ⟨by omega,.inl h⟩
   have h2 : ¬ (2100000000000000 : Int) < (coinV l)[j]:=fun h=>hj j (by omega) ⟨by omega,.inr h⟩
   omega
  refine ⟨sumI_pos fun v hv=>(hp v hv).1,?_⟩;have:=sumI_le (l:=(coinV l).take i) (c:=(2100000000000000 : Int)) (fun v hv=>(hp v hv).2);rw [List.length_take,Nat.min_eq_left hi] at this;exact this
 unfold Lref10_Fee_k1;rw [scan_pre (s:=(0,0)) (step:=Lref10_Fee_s2 l t) (fun i=>(sumI ((coinV l).take i),(i : Int))) (coinV l).length (fun i=>∃ h : i < (coinV l).length,(coinV l)[i] < 0∨(2100000000000000 : Int) < (coinV l)[i]) (some (0,90)) (Lref10_Fee_k2 (sumI (coinV l)) t) ?_ ?_ ?_ rfl]
 ·by_cases hx : ∃ i,i < (coinV l).length∧∃ h : i < (coinV l).length,(coinV l)[i] < 0∨(2100000000000000 : Int) < (coinV l)[i]
  ·have hs : sumBad (coinV l):=by
    obtain ⟨i,_,hi,hb⟩:=hx;exact .inl ⟨_,List.getElem_mem hi,hb⟩
   rw [if_pos hx,if_pos hs]
  ·rw [if_neg hx]
   unfold Lref10_Fee_k2;by_cases hs : (2100000000000000 : Int) < sumI (coinV l)
   ·have hs' : sumBad (coinV l):=.inr hs
    rw [if_pos hs,if_pos hs']
   ·have hs' : ¬ sumBad (coinV l):=by
     rintro (⟨v,hv,hb⟩ | h)
     ·obtain ⟨i,hi,rfl⟩:=List.getElem_of_mem hv
      exact hx ⟨i,hi,hi,hb⟩
     ·exact hs h
    rw [if_neg hs,if_neg hs']
 ·intro i hi hj hb
  have hb0:=hbnd i hj (by omega);have hb1 : ¬ ((coinV l)[i] < 0∨(2100000000000000 : Int) < (coinV l)[i]):=fun h=>hb ⟨hi,h⟩
  have hg:=cv_get (l:=l) (by omega) hi;have hi64 : (i : Int)≤64:=by omega
  simp only [Lref10_Fee_s2];rw [if_pos (by omega),idx_bind (by omega),if_neg (by omega),wi _ (by omega),wi_succ hi (by omega),sumI_take hi,hg]
 ·intro i hi hj hb
  obtain ⟨_,hb⟩:=hb;have hg:=cv_get (l:=l) (by omega) hi;simp only [Lref10_Fee_s2];rw [if_pos (by omega),idx_bind (by omega),if_pos (by omega)];rfl
 ·intro _
  simp only [Lref10_Fee_s2];rw [if_neg (by omega),List.take_length]
end
theorem outs_eq (t : Tapi_Tx) : Lspend_Fee_s2 t = Lref10_Fee_s3 t:=by
 funext ⟨a,b⟩
 rfl
def subW (n : Int) (l : List Tapi_Output) : Int:=l.foldl (fun n x=>IntKind.i64.wrap (n - x.1)) n
theorem outs_tot {t : Tapi_Tx} (h : t.2.2.1.length≤64) (n : Int) : ∃ r,runLoop (Lref10_Fee_s3 t) (n,0) = some r:=by
 have:=runLoop_to (step:=Lref10_Fee_s3 t) (fun i=>(subW n (t.2.2.1.take i),(i : Int))) t.2.2.1.length (x:=Lref10_Fee_k3 (subW n t.2.2.1)) (fun i hi=>by
  simp only [Lref10_Fee_s3];rw [if_pos (by omega),idx_bind hi,wi_succ hi (by omega)];unfold subW;rw [foldl_take _ _ hi]) (by
  simp only [Lref10_Fee_s3]
  rw [if_neg (by omega),List.take_length])
 have e : runLoop (Lref10_Fee_s3 t) (n,0) = Lref10_Fee_k3 (subW n t.2.2.1):=by simpa [subW] using this
 rw [e];unfold Lref10_Fee_k3;split <;> exact ⟨_,rfl⟩
theorem fee_both (t : Tapi_Tx) (l : List Tapi_Coin) : ∃ r,Lspend_Fee t l = some r∧Lref10_Fee t l = some r:=by
 classical
 unfold Lspend_Fee Lref10_Fee;rw [tx_check,rtx_check,bind_some',bind_some'];by_cases hc : checkS t = 0
 ·obtain ⟨h64,h65⟩:=check0 hc
  have hnc : ¬ ¬ checkS t = 0:=by simp [hc]
  rw [if_neg hnc,if_neg hnc];by_cases hn : (l.length : Int) = (t.2.1.length : Int)
  ·have hnn : ¬ ¬ (l.length : Int) = (t.2.1.length : Int):=by simp [hn]
   rw [if_neg hnn,if_neg hnn]
   have hk : ∃ r,Lspend_Fee_k1 l t = some r∧Lref10_Fee_k1 l t = some r:=by
    rw [ref_sum (by omega)];unfold Lspend_Fee_k1;rw [spend_sum (by omega)];by_cases hs : sumBad (coinV l)
    ·rw [if_pos hs,if_pos hs]
     exact ⟨_,rfl,rfl⟩
    ·rw [if_neg hs,if_neg hs,bind_some',if_neg (by simp),outs_eq]
     obtain ⟨r,hr⟩:=outs_tot h65 (sumI (coinV l));exact ⟨r,hr,hr⟩
   obtain ⟨r,hk1,hk2⟩:=hk
   have e1:=scan_dec (s:=0) (step:=Lspend_Fee_s1 l t) (fun i=>(i : Int)) (l.zip t.2.1) (fun x=>¬ (x.1.1.1 = x.2.1.1∧x.1.1.2 = x.2.1.2)) (some (0,101)) (some r) (fun i hi hb=>by
    have hi2 : i < l.length:=by simp at hi; omega
    have hi3 : i < t.2.1.length:=by simp at hi; omega
    simp only [List.getElem_zip] at hb;simp only [Lspend_Fee_s1];rw [if_pos (by omega),idx_bind hi2,idx_bind hi3,if_neg hb,wi_succ hi2 (by omega)]) (fun i hi hb=>by
    have hi2 : i < l.length:=by simp at hi; omega
    have hi3 : i < t.2.1.length:=by simp at hi; omega
    simp only [List.getElem_zip] at hb;simp only [Lspend_Fee_s1];rw [if_pos (by omega),idx_bind hi2,idx_bind hi3,if_pos hb];rfl) (by
    have : (l.zip t.2.1).length = l.length:=by simp; omega
    simp only [Lspend_Fee_s1]
    rw [if_neg (by omega),hk1]) rfl
   have e2:=scan_dec (s:=0) (step:=Lref10_Fee_s1 l t) (fun i=>(i : Int)) (l.zip t.2.1) (fun x=>¬ (x.1.1.1 = x.2.1.1∧x.1.1.2 = x.2.1.2)) (some (0,101)) (some r) (fun i hi hb=>by
    have hi2 : i < l.length:=by simp at hi; omega
    have hi3 : i < t.2.1.length:=by simp at hi; omega
    simp only [List.getElem_zip] at hb;simp only [Lref10_Fee_s1];rw [if_pos (by omega),idx_bind hi2,idx_bind hi3,if_neg hb,wi_succ hi2 (by omega)]) (fun i hi hb=>by
    have hi2 : i < l.length:=by simp at hi; omega
    have hi3 : i < t.2.1.length:=by simp at hi; omega
    simp only [List.getElem_zip] at hb;simp only [Lref10_Fee_s1];rw [if_pos (by omega),idx_bind hi2,idx_bind hi3,if_pos hb];rfl) (by
    have : (l.zip t.2.1).length = l.length:=by simp; omega
    simp only [Lref10_Fee_s1]
    rw [if_neg (by omega),hk2]) rfl
   rw [e1,e2];split <;> exact ⟨_,rfl,rfl⟩
  ·rw [if_pos hn,if_pos hn]
   exact ⟨_,rfl,rfl⟩
 ·rw [if_pos hc,if_pos hc]
  exact ⟨_,rfl,rfl⟩

/-! plans -/
end Go.Lc
end
section
/- Plans: what makes one valid. -/
namespace Go.Lc
open Go.RowKit
open Go.Av
set_option linter.unusedVariables false
set_option linter.unusedSimpArgs false

theorem outs_gen {t : Tapi_Tx} (h : checkS t = 0) {n : Int} (h0 : 0≤n) (hn : n≤4000000000000000000) : runLoop (Lspend_Fee_s2 t) (n,0) = if n - sumI (valsS t) < 0 then some (0,100) else some (n - sumI (valsS t),0):=by
 classical
 obtain ⟨_,h64⟩:=check0 h
 have hl : limS t:=by
  refine fits_lim ?_;by_cases hf : fitsS t = true
  ·exact hf
  ·unfold checkS at h
   rw [if_pos hf] at h;cases h
 have hsum : sumI (valsS t)≤2100000000000000:=by
  unfold checkS at h;split at h
  ·cases h
  ·split at h
   ·cases h
   ·split at h
    ·cases h
    ·omega
 have hp:=vals_pos hl;have hlen : (valsS t).length = t.2.2.1.length:=by simp [valsS]
 have hmono : ∀ i,sumI ((valsS t).take i)≤sumI (valsS t):=sumI_mono hp;have hpos : ∀ i,0≤sumI ((valsS t).take i):=fun i=>sumI_pos fun v hv=>hp v (List.mem_of_mem_take hv)
 have:=runLoop_to (step:=Lspend_Fee_s2 t) (fun i=>(n - sumI ((valsS t).take i),(i : Int))) t.2.2.1.length (x:=if n - sumI (valsS t) < 0 then some (0,100) else some (n - sumI (valsS t),0)) (fun i hi=>by
  have hs:=sumI_take (l:=valsS t) (i:=i) (by omega);have hg : (valsS t)[i]'(by omega) = (t.2.2.1[i]).1:=by simp [valsS]
  have h1:=hpos i;have h2:=hmono (i + 1);have h3:=hpos (i + 1);simp only [Lspend_Fee_s2];rw [if_pos (by omega),idx_bind hi,wi_succ hi (by omega),hs,hg];rw [hs,hg] at h2 h3;rw [wi _ (by omega)]
  congr 3
  omega) (by
  simp only [Lspend_Fee_s2];rw [if_neg (by omega),List.take_of_length_le (by omega)];unfold Lspend_Fee_k2
  rfl)
 simpa [sumI] using this
theorem outs_val {t : Tapi_Tx} (h : checkS t = 0) {n : Int} (h0 : sumI (valsS t)≤n) (h00 : 0≤n) (hn : n≤4000000000000000000) : runLoop (Lspend_Fee_s2 t) (n,0) = some (n - sumI (valsS t),0):=by
 rw [outs_gen h h00 hn,if_neg (by omega)]
theorem fee_val {t : Tapi_Tx} {l : List Tapi_Coin} (h : checkS t = 0) (hl : l.map (fun c=>c.1) = ptsS t) (hb : ¬ sumBad (coinV l)) (h0 : sumI (valsS t)≤sumI (coinV l)) : Lspend_Fee t l = some (sumI (coinV l) - sumI (valsS t),0):=by
 classical
 obtain ⟨h64,h65⟩:=check0 h;have hlen : l.length = t.2.1.length:=by have:=congrArg List.length hl; simpa [ptsS] using this
 have hs : sumI (coinV l)≤2100000000000000:=by
  unfold sumBad at hb;omega
 have h00 : 0≤sumI (coinV l):=sumI_pos fun v hv=>by
  have : ¬ (v < 0∨(2100000000000000 : Int) < v):=fun h=>hb (.inl ⟨v,hv,h⟩)
  omega
 unfold Lspend_Fee;rw [tx_check,bind_some',if_neg (by simp [h]),if_neg (by simp [hlen])];refine runLoop_to (step:=Lspend_Fee_s1 l t) (fun i=>(i : Int)) l.length (x:=some (sumI (coinV l) - sumI (valsS t),0)) (fun i hi=>?_) ?_
 ·have hi2 : i < t.2.1.length:=by omega
  have he : (l[i]).1 = (t.2.1[i]).1:=by
   have h1 : (l.map (fun c=>c.1))[i]? = (ptsS t)[i]? := by rw [hl]
   simpa [ptsS,hi,hi2] using h1
  simp only [Lspend_Fee_s1];rw [if_pos (by omega),idx_bind hi,idx_bind hi2,if_neg (by simp [he]),wi_succ hi (by omega)]
 ·simp only [Lspend_Fee_s1]
  rw [if_neg (by omega)];unfold Lspend_Fee_k1;rw [spend_sum (by omega),if_neg hb,bind_some',if_neg (by simp),outs_val h h0 h00 (by omega)]
theorem valid_of {p : Tapi_Plan} (h1 : checkS p.1 = 0) (h2 : cbS p.1 = false) (h3 : ∀ x∈p.1.2.1,x.2.2 = []) (h4 : -1≤p.2.2.2) (h5 : p.2.2.2 < p.1.2.2.1.length) (h6 : Lspend_Fee p.1 p.2.1 = some (p.2.2.1,0)) : Lbuild_Valid p = some true:=by
 obtain ⟨h64,h65⟩:=check0 h1;unfold Lbuild_Valid;rw [tx_check,bind_some',cb_eq,bind_some',if_neg (by simp [h1]),bind_some',if_neg (by simp [h1,h2])];refine runLoop_to (step:=Lbuild_Valid_s1 p) (fun i=>(i : Int)) p.1.2.1.length (x:=some true) (fun i hi=>?_) ?_
 ·simp only [Lbuild_Valid_s1]
  rw [if_pos (by omega),idx_bind hi,if_neg (by simp [h3 _ (List.getElem_mem hi)]),wi_succ hi (by omega)]
 ·simp only [Lbuild_Valid_s1]
  rw [if_neg (by omega)];unfold Lbuild_Valid_k1;rw [if_neg (by omega),h6,bind_some'];simp
end Go.Lc
end
section
/- Replacement: signals and conflicts; law 36,signals. -/
namespace Go.Lc
open Go.RowKit
open Go.Av
set_option linter.unusedVariables false

def samePt (x y : Tapi_Input) : Bool:=decide (x.1.1 = y.1.1) && decide (x.1.2 = y.1.2)
def conS (s t : Tapi_Tx) : Bool:=s.2.1.any fun x=>t.2.1.any fun y=>samePt x y
section
variable {s t : Tapi_Tx}
end
end Go.Lc
end
section
/- SHA-256: the program's rounds and the reference's are the same. -/
namespace Go.Lc
open Go.RowKit
open Go.Av
set_option linter.unusedVariables false

def rot (x n : Int) : Int:=bits .or .u32 (IntKind.u32.wrap (x * (2 ^ (min (bits .and .u64 (IntKind.u64.wrap n) 31).toNat 32)))) (x.fdiv (2 ^ (min (IntKind.u64.wrap (32 - (bits .and .u64 (IntKind.u64.wrap n) 31))).toNat 32)))
def rr (x n : Int) : Int:=rot x (IntKind.i64.wrap (-n))
/-! the words of a block -/
def wd (b : Arr 64) (i : Nat) : Nat→Int
 | 0=>0
 | j + 1=>bits .or .u32 (IntKind.u32.wrap (wd b i j * 256)) (IntKind.u32.wrap (b.at (4 * i + j)))
def sch1 (b : Arr 64) : Nat→Arr 64
 | 0=>zA 64
 | i + 1=>(sch1 b i).put i (wd b i 4)
def nxtW (w : Arr 64) (i : Nat) : Int:=IntKind.u32.wrap ((IntKind.u32.wrap ((IntKind.u32.wrap ((w.at (i - 16)) + (bits .xor .u32 (bits .xor .u32 (rr (w.at (i - 15)) 7) (rr (w.at (i - 15)) 18)) ((w.at (i - 15)).fdiv 8)))) + (w.at (i - 7)))) + (bits .xor .u32 (bits .xor .u32 (rr (w.at (i - 2)) 17) (rr (w.at (i - 2)) 19)) ((w.at (i - 2)).fdiv 1024)))
def sch2 (w : Arr 64) : Nat→Arr 64
 | 0=>w
 | k + 1=>(sch2 w k).put (16 + k) (nxtW (sch2 w k) (16 + k))
def sched (b : Arr 64) : Arr 64:=sch2 (sch1 b 16) 48
/-! words as bit vectors -/
/-! rounds -/
abbrev St8:=Int×Int×Int×Int×Int×Int×Int×Int
abbrev ad (x y : Int) : Int:=IntKind.u32.wrap (x + y)
def t1 (s : St8) (k w : Int) : Int:=match s with
 | (a,b,c,d,e,f,g,h)=>ad (ad (ad (ad h (bits .xor .u32 (bits .xor .u32 (rr e 6) (rr e 11)) (rr e 25))) (bits .xor .u32 (bits .and .u32 e f) (bits .and .u32 (bits .xor .u32 4294967295 e) g))) k) w
def t2 (s : St8) : Int:=match s with
 | (a,b,c,d,e,f,g,h)=>ad (bits .xor .u32 (bits .xor .u32 (rr a 2) (rr a 13)) (rr a 22)) (bits .xor .u32 (bits .xor .u32 (bits .and .u32 a b) (bits .and .u32 a c)) (bits .and .u32 b c))
def rnd (s : St8) (k w : Int) : St8:=match s with
 | (a,b,c,d,e,f,g,h)=>(ad (t1 s k w) (t2 s),a,b,c,ad d (t1 s k w),e,f,g)
def rnds (w : Arr 64) (s : St8) : Nat→St8
 | 0=>s
 | i + 1=>rnd (rnds w s i) (shaK.at i) (w.at i)
def st0 (x : Arr 8) : St8:=(x.at 0,x.at 1,x.at 2,x.at 3,x.at 4,x.at 5,x.at 6,x.at 7)
noncomputable def comp (x : Arr 8) (b : Arr 64) : Arr 8:=match rnds (sched b) (st0 x) 64 with
 | (a,b,c,d,e,f,g,h)=>((((((((zA 8).put 0 (IntKind.u32.wrap ((x.at 0) + a))).put 1 (IntKind.u32.wrap ((x.at 1) + b))).put 2 (IntKind.u32.wrap ((x.at 2) + c))).put 3 (IntKind.u32.wrap ((x.at 3) + d))).put 4 (IntKind.u32.wrap ((x.at 4) + e))).put 5 (IntKind.u32.wrap ((x.at 5) + f))).put 6 (IntKind.u32.wrap ((x.at 6) + g))).put 7 (IntKind.u32.wrap ((x.at 7) + h))
end Go.Lc
end
section
/- SHA-256: padding and sums,the program's and the reference's. -/
namespace Go.Lc
open Go.RowKit
open Go.Av
set_option linter.unusedVariables false

def padN (n : Nat) : Nat:=(64 - (n + 9) % 64) % 64
def lenB (n : Nat) (j : Nat) : Int:=IntKind.u8.wrap ((IntKind.u64.wrap (8 * (n : Int))).fdiv (2 ^ (56 - 8 * j)))
def padS (n : Nat) : List Int:=(128 :: List.replicate (padN n) 0)++(List.range 8).map (lenB n)
/-! the blocks -/
def blk (y : List Int) (i : Nat) : Arr 64:=arOf 64 (y.drop (64 * i))
noncomputable def hsh (y : List Int) : Nat→Arr 8
 | 0=>shaInitial
 | i + 1=>comp (hsh y i) (blk y i)
def byt (h : Arr 8) (k : Nat) : Int:=IntKind.u8.wrap ((h.at (k / 4)).fdiv (2 ^ (24 - (k % 4) * 8)))
def putN (h : Arr 8) : Nat→Arr 32
 | 0=>zA 32
 | k + 1=>(putN h k).put k (byt h k)
noncomputable def shaS (a : List Int) : Arr 32:=putN (hsh (a++padS a.length) ((a.length + (padS a.length).length) / 64)) 32
end Go.Lc
end
section
/- Replacement: acceptance,the program's and the reference's. -/
namespace Go.Lc
open Go.RowKit
open Go.Av
set_option linter.unusedVariables false

noncomputable def rateS (a b : Int) : Int:=(Lref33_Rate a b).getD 0
noncomputable def idS (t : Tapi_Tx) : Arr 32:=if fitsS t = true then shaS (shaS (encS t false)).l else zA 32
end Go.Lc
end
section
/- Replacement: acceptance,the program's and the reference's are the same. -/
namespace Go.Lc
open Go.RowKit
open Go.Av
set_option linter.unusedVariables false

section
variable {l : List Tapi_Entry} {t : Tapi_Tx} {f : Int}
end
end Go.Lc
end
section
/- Replacement: one answer on both sides. -/
namespace Go.Lc
open Go.RowKit
open Go.Av
set_option linter.unusedVariables false

end Go.Lc
end
section
/- Pools and heirs are always something; law 36,acceptance. -/
namespace Go.Lc
open Go.RowKit
open Go.Av
set_option linter.unusedVariables false

section
variable {y : Tapi_Tx×Tlightclientmill_Deck} {pool : List Tapi_Entry} {k : Int} {n : Nat}
end
end Go.Lc
end
section
/- Law 36,acceptance. -/
namespace Go.Lc
open Go.RowKit
open Go.Av
set_option linter.unusedVariables false

end Go.Lc
end
section
/- a way to compute lifted functions at given arguments: twins that the kernel can run -/
namespace Go.Lc
open Go.RowKit
open Go.Av
set_option linter.unusedVariables false
set_option linter.unusedSimpArgs false
class Force (α : Type) where
 force : {β : Type}→α→(α→β)→β
 eq : ∀ {β : Type} (a : α) (k : α→β),force a k = k a
noncomputable def forceN {β : Type} (n : Nat) (k : Nat→β) : β:=Nat.rec (motive:=fun _=>β) (k Nat.zero) (fun m _=>k (Nat.succ m)) n
theorem forceN_eq {β : Type} (n : Nat) (k : Nat→β) : forceN n k = k n:=by cases n <;> rfl
noncomputable instance : Force Nat:=⟨forceN,forceN_eq⟩
noncomputable def forceI {β : Type} (i : Int) (k : Int→β) : β:=Int.rec (motive:=fun _=>β) (fun n=>forceN n fun m=>k (Int.ofNat m)) (fun n=>forceN n fun m=>k (Int.negSucc m)) i
theorem forceI_eq {β : Type} (i : Int) (k : Int→β) : forceI i k = k i:=by
 cases i with
 | ofNat n=>exact forceN_eq n fun m=>k (Int.ofNat m)
 | negSucc n=>exact forceN_eq n fun m=>k (Int.negSucc m)
noncomputable instance : Force Int:=⟨forceI,forceI_eq⟩
noncomputable def forceB {β : Type} (b : Bool) (k : Bool→β) : β:=Bool.rec (motive:=fun _=>β) (k false) (k true) b
theorem forceB_eq {β : Type} (b : Bool) (k : Bool→β) : forceB b k = k b:=by cases b <;> rfl
noncomputable instance : Force Bool:=⟨forceB,forceB_eq⟩
noncomputable instance : Force Unit:=⟨fun _ k=>k (),fun _ _=>rfl⟩
noncomputable def forceP {α γ β : Type} [Force α] [Force γ] (p : α×γ) (k : α×γ→β) : β:=Prod.rec (motive:=fun _=>β) (fun a c=>Force.force a fun a=>Force.force c fun c=>k (a,c)) p
theorem forceP_eq {α γ β : Type} [Force α] [Force γ] (p : α×γ) (k : α×γ→β) : forceP p k = k p:=by
 obtain ⟨a,c⟩:=p;exact (Force.eq a _).trans (Force.eq c _)
noncomputable instance {α γ : Type} [Force α] [Force γ] : Force (α×γ):=⟨forceP,forceP_eq⟩
noncomputable def forceL {α β : Type} [Force α] (l : List α) (k : List α→β) : β:=List.rec (motive:=fun _=>(List α→β)→β) (fun k=>k []) (fun a _ ih k=>Force.force a fun a=>ih fun l=>k (a :: l)) l k
theorem forceL_eq {α β : Type} [Force α] (l : List α) (k : List α→β) : forceL l k = k l:=by
 induction l generalizing k with
 | nil=>rfl
 | cons a l ih =>
  refine (Force.eq (β:=β) a _).trans ?_;exact ih fun l=>k (a :: l)
noncomputable instance {α : Type} [Force α] : Force (List α):=⟨forceL,forceL_eq⟩
/-- an array anew: its length is looked at,not proved -/
noncomputable def forceA {n : Nat} {β : Type} (a : Arr n) (k : Arr n→β) : β:=forceL a.l fun l=>if h : Nat.beq l.length n = true then k ⟨l,Nat.eq_of_beq_eq_true h⟩ else k a
theorem forceA_eq {n : Nat} {β : Type} (a : Arr n) (k : Arr n→β) : forceA a k = k a:=by
 unfold forceA;rw [forceL_eq];split <;> rfl
noncomputable instance {n : Nat} : Force (Arr n):=⟨forceA,forceA_eq⟩
noncomputable instance {α γ : Type} [Force α] [Force γ] : Force (α ⊕ γ):=⟨fun x k=>Sum.rec (motive:=fun _=>_) (fun a=>Force.force a fun a=>k (.inl a)) (fun c=>Force.force c fun c=>k (.inr c)) x,fun x k=>by cases x <;> exact Force.eq _ _⟩
noncomputable instance {α : Type} [Force α] : Force (Option α):=⟨fun x k=>Option.rec (motive:=fun _=>_) (k none) (fun a=>Force.force a fun a=>k (some a)) x,fun x k=>by cases x <;> first | rfl | exact Force.eq _ _⟩
/-- what the first says,the second says too -/
def Le {α : Type} (o o' : Option α) : Prop:=∀ x,o = some x→o' = some x
theorem Le.refl {α : Type} (o : Option α) : Le o o:=fun _ h=>h
class Lec {α : Type} (o o' : Option α) : Prop where
 h : Le o o'
end Go.Lc
end
