import Derived.Test.YtjdoijdjeapekaaDoorLcG3
import Derived.Test.YtjdoijdjeapekaaDoorLcG1
import Derived.Test.YtjdoijdjeapekaaDoorLcG2
import Derived.KernelRfl
section
/- Transactions alone and with their coins: the program's tests and the reference's are the same; law 34,plans. -/
namespace Go.Lc
open Go.RowKit
open Go.Av
set_option linter.unusedVariables false

/-- a loop that stops at the first bad place; nothing before it was bad -/
theorem scan_pre {σ ρ : Type} {step : σ→Option (σ ⊕ ρ)} (enc : Nat→σ) (n : Nat) (bad : Nat→Prop) (rb x : Option ρ) [inst : Decidable (∃ i,i < n∧bad i)] (h : ∀ i,i < n→(∀ j,j < i→¬ bad j)→¬ bad i→step (enc i) = some (.inl (enc (i + 1)))) (hb : ∀ i,i < n→(∀ j,j < i→¬ bad j)→bad i→step (enc i) = rb.map .inr) (he : (∀ j,j < n→¬ bad j)→step (enc n) = x.map .inr) {s : σ} (hs : s = enc 0) : runLoop step s = if ∃ i,i < n∧bad i then rb else x:=by
 subst hs;by_cases hx : ∃ i,i < n∧bad i
 ·rw [if_pos hx]
  obtain ⟨m,hm,hbm,hmin⟩:=least_bad bad n hx;exact runLoop_to enc m (fun i hi=>h i (by omega) (fun j hj=>hmin j (by omega)) (hmin i hi)) (hb m hm hmin hbm)
 ·rw [if_neg hx]
  have hn : ∀ i,i < n→¬ bad i:=fun i hi hbi=>hx ⟨i,hi,hbi⟩
  exact runLoop_to enc n (fun i hi=>h i hi (fun j hj=>hn j (by omega)) (hn i hi)) (he hn)

/-! sums -/
def sumI : List Int→Int
 | []=>0
 | a :: l=>a + sumI l
theorem sumI_app (l m : List Int) : sumI (l++m) = sumI l + sumI m:=by
 induction l with
 | nil=>simp [sumI]
 | cons a l ih=>simp only [List.cons_append,sumI,ih]; omega
theorem sumI_take {l : List Int} {i : Nat} (h : i < l.length) : sumI (l.take (i + 1)) = sumI (l.take i) + l[i]:=by
 rw [List.take_succ_eq_append_getElem h,sumI_app];simp [sumI]
theorem sumI_pos {l : List Int} (h : ∀ v∈l,0≤v) : 0≤sumI l:=by
 induction l with
 | nil=>simp [sumI]
 | cons a l ih =>
  have h1:=h a (by simp);have h2:=ih fun v hv=>h v (by simp [hv])
  simp only [sumI];omega
theorem sumI_mono {l : List Int} (h : ∀ v∈l,0≤v) (i : Nat) : sumI (l.take i)≤sumI l:=by
 have h1 : sumI l = sumI (l.take i) + sumI (l.drop i):=by rw [← sumI_app,List.take_append_drop]
 have h2:=sumI_pos (l:=l.drop i) fun v hv=>h v (List.mem_of_mem_drop hv)
 omega
theorem sumI_le {l : List Int} {c : Int} (h : ∀ v∈l,v≤c) : sumI l≤l.length * c:=by
 induction l with
 | nil=>simp [sumI]
 | cons a l ih =>
  have h1:=h a (by simp);have h2:=ih fun v hv=>h v (by simp [hv])
  simp only [sumI,List.length_cons];have : ((l.length + 1 : Nat) : Int) * c = (l.length : Int) * c + c:=by rw [Int.natCast_add,Int.add_mul]; simp
  omega
theorem sum_bad (vs : List Int) (M : Int) (hM : 0≤M) : (∃ i,i < vs.length∧∃ h : i < vs.length,vs[i] < 0∨M < sumI (vs.take (i + 1)))↔(∃ v∈vs,v < 0∨M < v)∨M < sumI vs:=by
 by_cases hneg : ∃ v∈vs,v < 0
 ·obtain ⟨v,hv,hv0⟩:=hneg
  obtain ⟨i,hi,rfl⟩:=List.getElem_of_mem hv;exact ⟨fun _=>.inl ⟨_,hv,.inl hv0⟩,fun _=>⟨i,hi,hi,.inl hv0⟩⟩
 ·have hp : ∀ v∈vs,0≤v:=fun v hv=>by
   have : ¬ v < 0:=fun h=>hneg ⟨v,hv,h⟩
   omega
  constructor
  ·rintro ⟨i,_,hi,hb⟩
   have h1:=hp _ (List.getElem_mem hi);have h2:=sumI_mono hp (i + 1);exact .inr (by omega)
  ·intro h
   have key : M < sumI vs→∃ i,i < vs.length∧∃ h : i < vs.length,vs[i] < 0∨M < sumI (vs.take (i + 1)):=by
    intro hs
    have hn : 0 < vs.length:=by
     rcases Nat.eq_zero_or_pos vs.length with h0 | h0
     ·have:=List.length_eq_zero_iff.1 h0
      subst this;simp only [sumI] at hs;omega
     ·exact h0
    refine ⟨vs.length - 1,by omega,by omega,.inr ?_⟩;rw [show vs.length - 1 + 1 = vs.length by omega,List.take_length];exact hs
   rcases h with ⟨v,hv,hb⟩ | hs
   ·have h0:=hp v hv
    obtain ⟨i,hi,rfl⟩:=List.getElem_of_mem hv;refine ⟨i,hi,hi,.inr ?_⟩;rw [sumI_take hi];have:=sumI_pos (l:=vs.take i) fun v hv=>hp v (List.mem_of_mem_take hv)
    omega
   ·exact key hs

/-! points already seen -/
theorem mget_mput {K V : Type} [DecidableEq K] (k a : K) (v : V) (l : List (K×V)) : mget k (mput a v l) = if k = a then some v else mget k l:=by
 induction l with
 | nil=>simp [mput,mget]
 | cons x l ih =>
  obtain ⟨b,w⟩:=x;simp only [mput];by_cases h : a = b
  ·subst h
   rw [if_pos rfl];simp only [mget];by_cases hk : k = a <;> simp [hk]
  ·rw [if_neg h]
   simp only [mget,ih];by_cases hk : k = b
   ·subst hk
    simp [Ne.symm h]
   ·simp [hk]
def seen (l : List Tapi_OutPoint) : List (Tapi_OutPoint×Bool):=l.foldl (fun m p=>mput p true m) []
theorem seen_get (k : Tapi_OutPoint) (l : List Tapi_OutPoint) : ((mget k (seen l)).getD false = true)↔k∈l:=by
 have key : ∀ (l : List Tapi_OutPoint) (m : List (Tapi_OutPoint×Bool)),((mget k (l.foldl (fun m p=>mput p true m) m)).getD false = true)↔(k∈l∨(mget k m).getD false = true):=by
  intro l;induction l with
  | nil=>intro m; simp
  | cons a l ih =>
   intro m;rw [List.foldl_cons,ih,mget_mput];by_cases h : k = a
   ·simp [h]
   ·simp [h]
 have:=key l [];simpa [seen,mget] using this
theorem seen_take {l : List Tapi_OutPoint} {i : Nat} (h : i < l.length) : seen (l.take (i + 1)) = mput l[i] true (seen (l.take i)):=by
 unfold seen;rw [List.take_succ_eq_append_getElem h,List.foldl_append];rfl

/-! one transaction alone -/
abbrev nullP : Tapi_OutPoint:=(zA 32,4294967295)
def cbS (t : Tapi_Tx) : Bool:=match t.2.1 with
 | [x]=>decide (x.1 = nullP)
 | _=>false
theorem cb_eq (t : Tapi_Tx) : Ltx_Coinbase t = some (cbS t):=by
 obtain ⟨a,ins,outs,l⟩:=t;unfold Ltx_Coinbase Ltx_null cbS
 match ins with
 | []=>simp
 | [x]=>simp [Prod.ext_iff]
 | x :: y :: l =>
  have : ¬ ((x :: y :: l).length : Int) = 1:=by simp only [List.length_cons]; omega
  dsimp only;simp only [if_neg this,decide_eq_false this];rfl
theorem rcb_eq (t : Tapi_Tx) : Lref09_Coinbase t = some (cbS t):=by
 rw [← cb_eq];rfl
def valsS (t : Tapi_Tx) : List Int:=t.2.2.1.map Prod.fst
def ptsS (t : Tapi_Tx) : List Tapi_OutPoint:=t.2.1.map Prod.fst
def dupS (l : List Tapi_OutPoint) : Prop:=∃ i,i < l.length∧∃ h : i < l.length,l[i]∈l.take i
noncomputable def checkS (t : Tapi_Tx) : Int:=by
 classical exact if ¬ fitsS t = true then 4 else if t.2.1.length = 0∨t.2.2.1.length = 0 then 93 else if (2100000000000000 : Int) < sumI (valsS t) then 90 else if dupS (ptsS t) then 91 else if nullP∈ptsS t∧¬ cbS t = true then 92 else 0
theorem fits_lim {t : Tapi_Tx} (h : fitsS t = true) : limS t:=by
 classical
 unfold fitsS at h;simp only [decide_eq_true_eq] at h;exact h.1
section
variable {t : Tapi_Tx}
theorem vals_pos (h : limS t) : ∀ v∈valsS t,0≤v:=by
 intro v hv;obtain ⟨o,ho,rfl⟩:=List.mem_map.1 hv;exact (h.2.2.1 o ho).1
theorem money_eq (h : limS t) : Ltx_money t.2.2.1 = some (decide (¬ (2100000000000000 : Int) < sumI (valsS t))):=by
 classical
 have hp:=vals_pos h;have hl : (valsS t).length = t.2.2.1.length:=by simp [valsS]
 have hget : ∀ i (h1 : i < t.2.2.1.length),(valsS t)[i]'(by omega) = (t.2.2.1[i]).1:=by intro i h1; simp [valsS]
 unfold Ltx_money;have h64:=h.2.1
 have hbnd : ∀ i,(∀ j,j < i→¬ ∃ h : j < (valsS t).length,(valsS t)[j] < 0∨(2100000000000000 : Int) < sumI ((valsS t).take (j + 1)))→i≤(valsS t).length→0≤sumI ((valsS t).take i)∧sumI ((valsS t).take i)≤(2100000000000000 : Int):=by
  intro i hj hi;refine ⟨sumI_pos fun v hv=>hp v (List.mem_of_mem_take hv),?_⟩;cases i with
  | zero=>simp [sumI]
  | succ i =>
   have:=hj i (by omega);have h2 : ¬ (2100000000000000 : Int) < sumI ((valsS t).take (i + 1)):=fun h=>this ⟨by omega,.inr h⟩
   omega
 rw [scan_pre (s:=(0,0)) (step:=Ltx_money_s1 t.2.2.1) (fun i=>(sumI ((valsS t).take i),(i : Int))) (valsS t).length (fun i=>∃ h : i < (valsS t).length,(valsS t)[i] < 0∨(2100000000000000 : Int) < sumI ((valsS t).take (i + 1))) (some false) (some true) ?_ ?_ ?_ rfl]
 ·by_cases hs : (2100000000000000 : Int) < sumI (valsS t)
  ·rw [if_pos ((sum_bad _ _ (by decide)).2 (.inr hs))]
   simp [hs]
  ·rw [if_neg]
   ·simp [hs]
   ·intro hb
    rcases (sum_bad _ _ (by decide)).1 hb with ⟨v,hv,hb⟩ | hb
    ·have h0:=hp v hv
     have:=(sum_bad (valsS t) (2100000000000000 : Int) (by decide)).2 (.inl ⟨v,hv,hb⟩);obtain ⟨i,_,hi,hb'⟩:=this;have h1:=hp _ (List.getElem_mem hi);have h2:=sumI_mono hp (i + 1);omega
    ·exact hs hb
 ·intro i hi hj hb
  have hb0:=hbnd i hj (by omega);have hb1 : ¬ (2100000000000000 : Int) < sumI ((valsS t).take (i + 1)):=fun h=>hb ⟨hi,.inr h⟩
  have h0:=hp _ (List.getElem_mem hi);have hg:=hget i (by omega);rw [sumI_take hi] at hb1;simp only [Ltx_money_s1];rw [if_pos (by omega),idx_bind (by omega),wi _ (by omega),if_neg (by omega),wi _ (by omega),wi_succ hi (by omega),sumI_take hi,hg]
 ·intro i hi hj hb
  have hb0:=hbnd i hj (by omega);obtain ⟨_,hb⟩:=hb;have h0:=hp _ (List.getElem_mem hi);have hg:=hget i (by omega);rw [sumI_take hi] at hb;simp only [Ltx_money_s1];rw [if_pos (by omega),idx_bind (by omega),wi _ (by omega),if_pos (by omega)];rfl
 ·intro hj
  simp only [Ltx_money_s1];rw [if_neg (by omega)];rfl
theorem pts_len : (ptsS t).length = t.2.1.length:=by simp [ptsS]
theorem pts_get {i : Nat} (h1 : i < t.2.1.length) (h2 : i < (ptsS t).length) : (ptsS t)[i] = (t.2.1[i]).1:=by simp [ptsS]
theorem tx_check (t : Tapi_Tx) : Ltx_Check t = some (checkS t):=by
 classical
 unfold Ltx_Check checkS;rw [tx_fits,bind_some'];by_cases hf : fitsS t = true
 ·have hlim:=fits_lim hf
  have h64:=hlim.1;have hnf : ¬ ¬ fitsS t = true:=by simp [hf]
  rw [if_neg hnf,if_neg hnf];by_cases h0 : t.2.1.length = 0∨t.2.2.1.length = 0
  ·rw [if_pos (show (t.2.1.length : Int) = 0∨(t.2.2.1.length : Int) = 0 by omega),if_pos h0]
  ·rw [if_neg (show ¬ ((t.2.1.length : Int) = 0∨(t.2.2.1.length : Int) = 0) by omega),if_neg h0,money_eq hlim,bind_some']
   by_cases hs : (2100000000000000 : Int) < sumI (valsS t)
   ·rw [if_pos (by simp [hs]),if_pos hs]
   ·rw [if_neg (by simp [hs]),if_neg hs]
    have hl:=pts_len (t:=t);rw [scan_pre (s:=(0,[])) (step:=Ltx_Check_s1 t) (fun i=>((i : Int),seen ((ptsS t).take i))) (ptsS t).length (fun i=>∃ h : i < (ptsS t).length,(ptsS t)[i]∈(ptsS t).take i) (some 91) (some (if nullP∈ptsS t∧¬ cbS t = true then 92 else 0)) ?_ ?_ ?_ rfl]
    ·by_cases hd : dupS (ptsS t)
     ·rw [if_pos (show ∃ i,i < (ptsS t).length∧∃ h : i < (ptsS t).length,(ptsS t)[i]∈(ptsS t).take i from hd),if_pos hd]
     ·rw [if_neg (show ¬ ∃ i,i < (ptsS t).length∧∃ h : i < (ptsS t).length,(ptsS t)[i]∈(ptsS t).take i from hd),if_neg hd]
    ·intro i hi _ hb
     have hg:=pts_get (t:=t) (by omega) hi;simp only [Ltx_Check_s1];rw [if_pos (by omega),idx_bind (by omega),if_neg,wi_succ hi (by omega),seen_take hi,hg];rw [← hg,seen_get];exact fun h=>hb ⟨hi,h⟩
    ·intro i hi _ hb
     have hg:=pts_get (t:=t) (by omega) hi;simp only [Ltx_Check_s1];rw [if_pos (by omega),idx_bind (by omega),if_pos]
     ·rfl
     ·rw [← hg,seen_get]
      exact hb.2
    ·intro _
     simp only [Ltx_Check_s1];rw [if_neg (by omega),List.take_length];unfold Ltx_Check_k1;rw [cb_eq];by_cases hn : nullP∈ptsS t
     ·have hn' := (seen_get _ _).2 hn
      rw [if_pos hn'];cases hc : cbS t <;> simp [hn,hn']
     ·have hn' : ¬ _:=fun h=>hn ((seen_get nullP (ptsS t)).1 h)
      rw [if_neg hn'];simp [hn,hn']
 ·rw [if_pos hf,if_pos hf]
theorem ref_dup {i : Nat} (hi : i < t.2.1.length) (h64 : t.2.1.length≤64) : (runLoop (Lref09_Check_s4 (i : Int) t) 0) = (by classical exact if ∃ h : i < (ptsS t).length,(ptsS t)[i]∈(ptsS t).take i then some (.inr 91) else some (.inl ((i + 1 : Nat) : Int))):=by
 classical
 have hl:=pts_len (t:=t);have hgi:=pts_get hi (by omega);rw [scan_pre (s:=0) (step:=Lref09_Check_s4 (i : Int) t) (fun j=>(j : Int)) i (fun j=>∃ h : j < (ptsS t).length,(ptsS t)[i]'(by omega) = (ptsS t)[j]) (some (.inr 91)) (some (.inl ((i + 1 : Nat) : Int))) ?_ ?_ ?_ rfl]
 ·have e : (∃ j,j < i∧∃ h : j < (ptsS t).length,(ptsS t)[i]'(by omega) = (ptsS t)[j])↔∃ h : i < (ptsS t).length,(ptsS t)[i]∈(ptsS t).take i:=by
   constructor
   ·rintro ⟨j,hj,hj2,e⟩
    refine ⟨by omega,?_⟩;rw [e];exact List.mem_take_iff_getElem.2 ⟨j,by omega,rfl⟩
   ·rintro ⟨h,hm⟩
    obtain ⟨j,hj,e⟩:=List.mem_take_iff_getElem.1 hm;exact ⟨j,by omega,by omega,e.symm⟩
  simp only [e]
 ·intro j hj _ hb
  have hgj:=pts_get (t:=t) (i:=j) (by omega) (by omega);simp only [Lref09_Check_s4];rw [if_pos (by omega),idx_bind (by omega),idx_bind (by omega),if_neg,wi_succ hj (by omega)];intro h;exact hb ⟨by omega,by rw [hgi,hgj]; exact Prod.ext h.1 h.2⟩
 ·intro j hj _ hb
  have hgj:=pts_get (t:=t) (i:=j) (by omega) (by omega);obtain ⟨_,hb⟩:=hb;rw [hgi,hgj] at hb;simp only [Lref09_Check_s4];rw [if_pos (by omega),idx_bind (by omega),idx_bind (by omega),if_pos ⟨congrArg Prod.fst hb,congrArg Prod.snd hb⟩];rfl
 ·intro _
  simp only [Lref09_Check_s4];rw [if_neg (by omega)];simp only [Lref09_Check_k4,wi_succ hi (by omega)]
theorem ref_null (h64 : t.2.1.length≤64) : Lref09_Check_k2 t = (by classical exact some (if nullP∈ptsS t∧¬ cbS t = true then 92 else 0)):=by
 classical
 unfold Lref09_Check_k2;have hl:=pts_len (t:=t);rw [scan_pre (s:=0) (step:=Lref09_Check_s3 t) (fun j=>(j : Int)) (ptsS t).length (fun j=>∃ h : j < (ptsS t).length,(ptsS t)[j] = nullP∧¬ cbS t = true) (some 92) (some 0) ?_ ?_ ?_ rfl]
 ·have e : (∃ j,j < (ptsS t).length∧∃ h : j < (ptsS t).length,(ptsS t)[j] = nullP∧¬ cbS t = true)↔nullP∈ptsS t∧¬ cbS t = true:=by
   constructor
   ·rintro ⟨j,_,hj,e,hc⟩
    exact ⟨e ▸ List.getElem_mem hj,hc⟩
   ·rintro ⟨hm,hc⟩
    obtain ⟨j,hj,e⟩:=List.getElem_of_mem hm;exact ⟨j,hj,hj,e,hc⟩
  simp only [e];split <;> rfl
 ·intro i hi _ hb
  have hg:=pts_get (t:=t) (by omega) hi;simp only [Lref09_Check_s3];rw [if_pos (by omega),idx_bind (by omega),rcb_eq];unfold Lref09_Null;rw [bind_some'];by_cases hn : (t.2.1[i]'(by omega)).1 = nullP
  ·have hc : cbS t = true:=Decidable.byContradiction fun h=>hb ⟨hi,by rw [hg,hn],h⟩
   rw [hn];simp [hc,wi_succ hi (show (ptsS t).length≤9223372036854775807 by omega)]
  ·have hn' : ¬ ((decide ((t.2.1[i]'(by omega)).1.1 = zA 32) && decide ((t.2.1[i]'(by omega)).1.2 = 4294967295)) = true):=by
    simp only [Bool.and_eq_true,decide_eq_true_eq];exact fun h=>hn (Prod.ext h.1 h.2)
   rw [if_neg hn',bind_some',if_neg (fun h=>hn' h.1),wi_succ hi (by omega)]
 ·intro i hi _ hb
  have hg:=pts_get (t:=t) (by omega) hi;obtain ⟨_,hb,hc⟩:=hb;rw [hg] at hb;simp only [Lref09_Check_s3];rw [if_pos (by omega),idx_bind (by omega),rcb_eq];unfold Lref09_Null;rw [bind_some',hb];simp [hc]
 ·intro _
  simp only [Lref09_Check_s3];rw [if_neg (by omega)];rfl
theorem rtx_check (t : Tapi_Tx) : Lref09_Check t = some (checkS t):=by
 classical
 unfold Lref09_Check checkS;rw [rtx_fits,bind_some'];by_cases hf : fitsS t = true
 ·have hlim:=fits_lim hf
  have h64:=hlim.1;have h65:=hlim.2.1;have hp:=vals_pos hlim;have hnf : ¬ ¬ fitsS t = true:=by simp [hf]
  rw [if_neg hnf,if_neg hnf];by_cases h0 : t.2.1.length = 0∨t.2.2.1.length = 0
  ·rw [if_pos (show (t.2.1.length : Int) = 0∨(t.2.2.1.length : Int) = 0 by omega),if_pos h0]
  ·rw [if_neg (show ¬ ((t.2.1.length : Int) = 0∨(t.2.2.1.length : Int) = 0) by omega),if_neg h0]
   have hl : (valsS t).length = t.2.2.1.length:=by simp [valsS]
   have hget : ∀ i (h1 : i < t.2.2.1.length),(valsS t)[i]'(by omega) = (t.2.2.1[i]).1:=by intro i h1; simp [valsS]
   have hk1 : Lref09_Check_k1 (sumI (valsS t)) t = some (if (2100000000000000 : Int) < sumI (valsS t) then 90 else if dupS (ptsS t) then 91 else if nullP∈ptsS t∧¬ cbS t = true then 92 else 0):=by
    unfold Lref09_Check_k1;by_cases hs : (2100000000000000 : Int) < sumI (valsS t)
    ·rw [if_pos hs,if_pos hs]
    ·rw [if_neg hs,if_neg hs]
     have hl:=pts_len (t:=t);rw [scan_pre (s:=0) (step:=Lref09_Check_s2 t) (fun i=>(i : Int)) (ptsS t).length (fun i=>∃ h : i < (ptsS t).length,(ptsS t)[i]∈(ptsS t).take i) (some 91) (some (if nullP∈ptsS t∧¬ cbS t = true then 92 else 0)) ?_ ?_ ?_ rfl]
     ·by_cases hd : dupS (ptsS t)
      ·rw [if_pos (show ∃ i,i < (ptsS t).length∧∃ h : i < (ptsS t).length,(ptsS t)[i]∈(ptsS t).take i from hd),if_pos hd]
      ·rw [if_neg (show ¬ ∃ i,i < (ptsS t).length∧∃ h : i < (ptsS t).length,(ptsS t)[i]∈(ptsS t).take i from hd),if_neg hd]
     ·intro i hi _ hb
      simp only [Lref09_Check_s2];rw [if_pos (by omega),ref_dup (by omega) h64,if_neg hb]
     ·intro i hi _ hb
      simp only [Lref09_Check_s2];rw [if_pos (by omega),ref_dup (by omega) h64,if_pos hb];rfl
     ·intro _
      simp only [Lref09_Check_s2];rw [if_neg (by omega),ref_null h64]
   have hbnd : ∀ i,(∀ j,j < i→¬ ∃ h : j < (valsS t).length,(2100000000000000 : Int) < (valsS t)[j])→i≤(valsS t).length→0≤sumI ((valsS t).take i)∧sumI ((valsS t).take i)≤i * (2100000000000000 : Int):=by
    intro i hj hi;refine ⟨sumI_pos fun v hv=>hp v (List.mem_of_mem_take hv),?_⟩
    have:=sumI_le (l:=(valsS t).take i) (c:=(2100000000000000 : Int)) (fun v hv=>by
     obtain ⟨j,hj2,rfl⟩:=List.mem_take_iff_getElem.1 hv;have h1 : ¬ (2100000000000000 : Int) < (valsS t)[j]:=fun h=>hj j (by omega) ⟨by omega,h⟩
     omega)
    rw [List.length_take,Nat.min_eq_left hi] at this;exact this
   rw [scan_pre (s:=(0,0)) (step:=Lref09_Check_s1 t) (fun i=>(sumI ((valsS t).take i),(i : Int))) (valsS t).length (fun i=>∃ h : i < (valsS t).length,(2100000000000000 : Int) < (valsS t)[i]) (some 90) (Lref09_Check_k1 (sumI (valsS t)) t) ?_ ?_ ?_ rfl]
   ·rw [hk1]
    by_cases hx : ∃ i,i < (valsS t).length∧∃ h : i < (valsS t).length,(2100000000000000 : Int) < (valsS t)[i]
    ·rw [if_pos hx]
     obtain ⟨i,_,hi,hb⟩:=hx;have h1:=sumI_mono hp (i + 1);rw [sumI_take hi] at h1;have h2:=sumI_pos (l:=(valsS t).take i) fun v hv=>hp v (List.mem_of_mem_take hv)
     rw [if_pos (by omega)]
    ·rw [if_neg hx]
   ·intro i hi hj hb
    have hb0:=hbnd i hj (by omega);have hb1 : ¬ (2100000000000000 : Int) < (valsS t)[i]:=fun h=>hb ⟨hi,h⟩
    have h0:=hp _ (List.getElem_mem hi);have hg:=hget i (by omega);have hi64 : (i : Int)≤64:=by omega
    simp only [Lref09_Check_s1];rw [if_pos (by omega),idx_bind (by omega),if_neg (by omega),wi _ (by omega),wi_succ hi (by omega),sumI_take hi,hg]
   ·intro i hi hj hb
    obtain ⟨_,hb⟩:=hb;have hg:=hget i (by omega);simp only [Lref09_Check_s1];rw [if_pos (by omega),idx_bind (by omega),if_pos (by omega)];rfl
   ·intro _
    simp only [Lref09_Check_s1];rw [if_neg (by omega),List.take_length]
 ·rw [if_pos hf,if_pos hf]
end
theorem check0 {t : Tapi_Tx} (h : checkS t = 0) : t.2.1.length≤64∧t.2.2.1.length≤64:=by
 classical
 unfold checkS at h;by_cases hf : fitsS t = true
 ·have:=fits_lim hf
  exact ⟨this.1,this.2.1⟩
 ·rw [if_pos hf] at h
  omega
/-! coins -/
def coinV (l : List Tapi_Coin) : List Int:=l.map fun c=>c.2.1.1
def sumBad (vs : List Int) : Prop:=(∃ v∈vs,v < 0∨(2100000000000000 : Int) < v)∨(2100000000000000 : Int) < sumI vs
section
variable {l : List Tapi_Coin}
theorem cv_get {i : Nat} (h1 : i < l.length) (h2 : i < (coinV l).length) : (coinV l)[i] = (l[i]).2.1.1:=by simp [coinV]
theorem spend_sum (h64 : l.length≤64) : Lspend_sum l = (by classical exact if sumBad (coinV l) then some (0,false) else some (sumI (coinV l),true)):=by
 classical
 have hl : (coinV l).length = l.length:=by simp [coinV]
 have hbnd : ∀ i,(∀ j,j < i→¬ ∃ h : j < (coinV l).length,(coinV l)[j] < 0∨(2100000000000000 : Int) < sumI ((coinV l).take (j + 1)))→i≤(coinV l).length→0≤sumI ((coinV l).take i)∧sumI ((coinV l).take i)≤(2100000000000000 : Int):=by
  intro i hj hi;refine ⟨sumI_pos fun v hv=>?_,?_⟩
  ·obtain ⟨j,hj2,rfl⟩:=List.mem_take_iff_getElem.1 hv
   have h1 : ¬ (coinV l)[j] < 0:=fun h=>hj j (by omega) ⟨by omega,.inl h⟩
   omega
  ·cases i with
   | zero=>simp [sumI]
   | succ i =>
    have h2 : ¬ (2100000000000000 : Int) < sumI ((coinV l).take (i + 1)):=fun h=>hj i (by omega) ⟨by omega,.inr h⟩
    omega
 unfold Lspend_sum;rw [scan_pre (s:=(0,0)) (step:=Lspend_sum_s1 l) (fun i=>(sumI ((coinV l).take i),(i : Int))) (coinV l).length (fun i=>∃ h : i < (coinV l).length,(coinV l)[i] < 0∨(2100000000000000 : Int) < sumI ((coinV l).take (i + 1))) (some (0,false)) (some (sumI (coinV l),true)) ?_ ?_ ?_ rfl]
 ·simp only [sum_bad (coinV l) (2100000000000000 : Int) (by decide)]
  by_cases hs : sumBad (coinV l)
  ·rw [if_pos (show (∃ v∈coinV l,v < 0∨(2100000000000000 : Int) < v)∨(2100000000000000 : Int) < sumI (coinV l) from hs),if_pos hs]
  ·rw [if_neg (show ¬ ((∃ v∈coinV l,v < 0∨(2100000000000000 : Int) < v)∨(2100000000000000 : Int) < sumI (coinV l)) from hs),if_neg hs]
 ·intro i hi hj hb
  have hb0:=hbnd i hj (by omega);have hb1 : ¬ (2100000000000000 : Int) < sumI ((coinV l).take (i + 1)):=fun h=>hb ⟨hi,.inr h⟩
  have h0 : ¬ (coinV l)[i] < 0:=fun h=>hb ⟨hi,.inl h⟩
  have hg:=cv_get (l:=l) (by omega) hi;rw [sumI_take hi] at hb1;simp only [Lspend_sum_s1];rw [if_pos (by omega),idx_bind (by omega),wi (2100000000000000 - _) (by omega),if_neg (by omega),wi _ (by omega),wi_succ hi (by omega),sumI_take hi,hg]
 ·intro i hi hj hb
  have hb0:=hbnd i hj (by omega);obtain ⟨_,hb⟩:=hb;have hg:=cv_get (l:=l) (by omega) hi;rw [sumI_take hi] at hb;simp only [Lspend_sum_s1];rw [if_pos (by omega),idx_bind (by omega),wi _ (by omega),if_pos (by omega)];rfl
 ·intro hj
  simp only [Lspend_sum_s1];rw [if_neg (by omega),List.take_length];rfl
theorem ref_sum {t : Tapi_Tx} (h64 : l.length≤64) : Lref10_Fee_k1 l t = (by classical exact if sumBad (coinV l) then some (0,90) else runLoop (Lref10_Fee_s3 t) (sumI (coinV l),0)):=by
 classical
 have hl : (coinV l).length = l.length:=by simp [coinV]
 have hbnd : ∀ i,(∀ j,j < i→¬ ∃ h : j < (coinV l).length,(coinV l)[j] < 0∨(2100000000000000 : Int) < (coinV l)[j])→i≤(coinV l).length→0≤sumI ((coinV l).take i)∧sumI ((coinV l).take i)≤i * (2100000000000000 : Int):=by
  intro i hj hi
  have hp : ∀ v∈(coinV l).take i,0≤v∧v≤(2100000000000000 : Int):=fun v hv=>by
   obtain ⟨j,hj2,rfl⟩:=List.mem_take_iff_getElem.1 hv;have h1 : ¬ (coinV l)[j] < 0:=fun h=>hj j (by omega) ⟨by omega,.inl h⟩
   have h2 : ¬ (2100000000000000 : Int) < (coinV l)[j]:=fun h=>hj j (by omega) ⟨by omega,.inr h⟩
   omega
  refine ⟨sumI_pos fun v hv=>(hp v hv).1,?_⟩;have:=sumI_le (l:=(coinV l).take i) (c:=(2100000000000000 : Int)) (fun v hv=>(hp v hv).2);rw [List.length_take,Nat.min_eq_left hi] at this;exact this
 unfold Lref10_Fee_k1;rw [scan_pre (s:=(0,0)) (step:=Lref10_Fee_s2 l t) (fun i=>(sumI ((coinV l).take i),(i : Int))) (coinV l).length (fun i=>∃ h : i < (coinV l).length,(coinV l)[i] < 0∨(2100000000000000 : Int) < (coinV l)[i]) (some (0,90)) (Lref10_Fee_k2 (sumI (coinV l)) t) ?_ ?_ ?_ rfl]
 ·by_cases hx : ∃ i,i < (coinV l).length∧∃ h : i < (coinV l).length,(coinV l)[i] < 0∨(2100000000000000 : Int) < (coinV l)[i]
  ·have hs : sumBad (coinV l):=by
    obtain ⟨i,_,hi,hb⟩:=hx;exact .inl ⟨_,List.getElem_mem hi,hb⟩
   rw [if_pos hx,if_pos hs]
  ·rw [if_neg hx]
   unfold Lref10_Fee_k2;by_cases hs : (2100000000000000 : Int) < sumI (coinV l)
   ·have hs' : sumBad (coinV l):=.inr hs
    rw [if_pos hs,if_pos hs']
   ·have hs' : ¬ sumBad (coinV l):=by
     rintro (⟨v,hv,hb⟩ | h)
     ·obtain ⟨i,hi,rfl⟩:=List.getElem_of_mem hv
      exact hx ⟨i,hi,hi,hb⟩
     ·exact hs h
    rw [if_neg hs,if_neg hs']
 ·intro i hi hj hb
  have hb0:=hbnd i hj (by omega);have hb1 : ¬ ((coinV l)[i] < 0∨(2100000000000000 : Int) < (coinV l)[i]):=fun h=>hb ⟨hi,h⟩
  have hg:=cv_get (l:=l) (by omega) hi;have hi64 : (i : Int)≤64:=by omega
  simp only [Lref10_Fee_s2];rw [if_pos (by omega),idx_bind (by omega),if_neg (by omega),wi _ (by omega),wi_succ hi (by omega),sumI_take hi,hg]
 ·intro i hi hj hb
  obtain ⟨_,hb⟩:=hb;have hg:=cv_get (l:=l) (by omega) hi;simp only [Lref10_Fee_s2];rw [if_pos (by omega),idx_bind (by omega),if_pos (by omega)];rfl
 ·intro _
  simp only [Lref10_Fee_s2];rw [if_neg (by omega),List.take_length]
end
theorem outs_eq (t : Tapi_Tx) : Lspend_Fee_s2 t = Lref10_Fee_s3 t:=by
 funext ⟨a,b⟩
 rfl
def subW (n : Int) (l : List Tapi_Output) : Int:=l.foldl (fun n x=>IntKind.i64.wrap (n - x.1)) n
theorem outs_tot {t : Tapi_Tx} (h : t.2.2.1.length≤64) (n : Int) : ∃ r,runLoop (Lref10_Fee_s3 t) (n,0) = some r:=by
 have:=runLoop_to (step:=Lref10_Fee_s3 t) (fun i=>(subW n (t.2.2.1.take i),(i : Int))) t.2.2.1.length (x:=Lref10_Fee_k3 (subW n t.2.2.1)) (fun i hi=>by
  simp only [Lref10_Fee_s3];rw [if_pos (by omega),idx_bind hi,wi_succ hi (by omega)];unfold subW;rw [foldl_take _ _ hi]) (by
  simp only [Lref10_Fee_s3]
  rw [if_neg (by omega),List.take_length])
 have e : runLoop (Lref10_Fee_s3 t) (n,0) = Lref10_Fee_k3 (subW n t.2.2.1):=by simpa [subW] using this
 rw [e];unfold Lref10_Fee_k3;split <;> exact ⟨_,rfl⟩
theorem fee_both (t : Tapi_Tx) (l : List Tapi_Coin) : ∃ r,Lspend_Fee t l = some r∧Lref10_Fee t l = some r:=by
 classical
 unfold Lspend_Fee Lref10_Fee;rw [tx_check,rtx_check,bind_some',bind_some'];by_cases hc : checkS t = 0
 ·obtain ⟨h64,h65⟩:=check0 hc
  have hnc : ¬ ¬ checkS t = 0:=by simp [hc]
  rw [if_neg hnc,if_neg hnc];by_cases hn : (l.length : Int) = (t.2.1.length : Int)
  ·have hnn : ¬ ¬ (l.length : Int) = (t.2.1.length : Int):=by simp [hn]
   rw [if_neg hnn,if_neg hnn]
   have hk : ∃ r,Lspend_Fee_k1 l t = some r∧Lref10_Fee_k1 l t = some r:=by
    rw [ref_sum (by omega)];unfold Lspend_Fee_k1;rw [spend_sum (by omega)];by_cases hs : sumBad (coinV l)
    ·rw [if_pos hs,if_pos hs]
     exact ⟨_,rfl,rfl⟩
    ·rw [if_neg hs,if_neg hs,bind_some',if_neg (by simp),outs_eq]
     obtain ⟨r,hr⟩:=outs_tot h65 (sumI (coinV l));exact ⟨r,hr,hr⟩
   obtain ⟨r,hk1,hk2⟩:=hk
   have e1:=scan_dec (s:=0) (step:=Lspend_Fee_s1 l t) (fun i=>(i : Int)) (l.zip t.2.1) (fun x=>¬ (x.1.1.1 = x.2.1.1∧x.1.1.2 = x.2.1.2)) (some (0,101)) (some r) (fun i hi hb=>by
    have hi2 : i < l.length:=by simp at hi; omega
    have hi3 : i < t.2.1.length:=by simp at hi; omega
    simp only [List.getElem_zip] at hb;simp only [Lspend_Fee_s1];rw [if_pos (by omega),idx_bind hi2,idx_bind hi3,if_neg hb,wi_succ hi2 (by omega)]) (fun i hi hb=>by
    have hi2 : i < l.length:=by simp at hi; omega
    have hi3 : i < t.2.1.length:=by simp at hi; omega
    simp only [List.getElem_zip] at hb;simp only [Lspend_Fee_s1];rw [if_pos (by omega),idx_bind hi2,idx_bind hi3,if_pos hb];rfl) (by
    have : (l.zip t.2.1).length = l.length:=by simp; omega
    simp only [Lspend_Fee_s1]
    rw [if_neg (by omega),hk1]) rfl
   have e2:=scan_dec (s:=0) (step:=Lref10_Fee_s1 l t) (fun i=>(i : Int)) (l.zip t.2.1) (fun x=>¬ (x.1.1.1 = x.2.1.1∧x.1.1.2 = x.2.1.2)) (some (0,101)) (some r) (fun i hi hb=>by
    have hi2 : i < l.length:=by simp at hi; omega
    have hi3 : i < t.2.1.length:=by simp at hi; omega
    simp only [List.getElem_zip] at hb;simp only [Lref10_Fee_s1];rw [if_pos (by omega),idx_bind hi2,idx_bind hi3,if_neg hb,wi_succ hi2 (by omega)]) (fun i hi hb=>by
    have hi2 : i < l.length:=by simp at hi; omega
    have hi3 : i < t.2.1.length:=by simp at hi; omega
    simp only [List.getElem_zip] at hb;simp only [Lref10_Fee_s1];rw [if_pos (by omega),idx_bind hi2,idx_bind hi3,if_pos hb];rfl) (by
    have : (l.zip t.2.1).length = l.length:=by simp; omega
    simp only [Lref10_Fee_s1]
    rw [if_neg (by omega),hk2]) rfl
   rw [e1,e2];split <;> exact ⟨_,rfl,rfl⟩
  ·rw [if_pos hn,if_pos hn]
   exact ⟨_,rfl,rfl⟩
 ·rw [if_pos hc,if_pos hc]
  exact ⟨_,rfl,rfl⟩

/-! plans -/
theorem valid_both (p : Tapi_Plan) : ∃ b,Lbuild_Valid p = some b∧Lref34_Valid p = some b:=by
 classical
 unfold Lbuild_Valid Lref34_Valid;rw [tx_check,rtx_check,bind_some',bind_some',cb_eq,rcb_eq];by_cases hc : checkS p.1 = 0
 ·obtain ⟨h64,h65⟩:=check0 hc
  have hnc : ¬ ¬ checkS p.1 = 0:=by simp [hc]
  rw [if_neg hnc];simp only [bind_some'];cases hb : cbS p.1 with
  | true=>exact ⟨false,by simp,by simp⟩
  | false =>
   have h1 : ¬ (¬ checkS p.1 = 0∨false = true):=by simp [hc]
   rw [if_neg h1,if_neg h1];unfold Lref34_in;rw [bind_some',bind_some',wi _ (by omega)];by_cases hx : p.2.2.2 < (-1)∨(p.1.2.2.1.length : Int)≤p.2.2.2
   ·refine ⟨false,?_,?_⟩
    ·have e1:=scan_dec (s:=0) (step:=Lbuild_Valid_s1 p) (fun i=>(i : Int)) p.1.2.1 (fun x=>0 < x.2.2.length) (some false) (some false) (fun i hi hb=>by
      simp only [Lbuild_Valid_s1];rw [if_pos (by omega),idx_bind hi,if_neg (by omega),wi_succ hi (by omega)]) (fun i hi hb=>by
      simp only [Lbuild_Valid_s1];rw [if_pos (by omega),idx_bind hi,if_pos (by omega)];rfl) (by
      simp only [Lbuild_Valid_s1];rw [if_neg (by omega)];unfold Lbuild_Valid_k1
      rw [if_pos hx]) rfl
     rw [e1];split <;> rfl
    ·have h2 : (!(decide ((-1)≤p.2.2.2) && decide (p.2.2.2≤(p.1.2.2.1.length : Int) - 1))) = true:=by
      rcases hx with hx | hx
      ·have : ¬ (-1)≤p.2.2.2:=by omega
       simp [this]
      ·have : ¬ p.2.2.2≤(p.1.2.2.1.length : Int) - 1:=by omega
       simp [this]
     rw [h2,if_pos (.inr rfl)]
   ·have h2 : (!(decide ((-1)≤p.2.2.2) && decide (p.2.2.2≤(p.1.2.2.1.length : Int) - 1))) = false:=by
     have g1 : (-1)≤p.2.2.2:=by omega
     have g2 : p.2.2.2≤(p.1.2.2.1.length : Int) - 1:=by omega
     simp [g1,g2]
    rw [h2];have h3 : ¬ ((¬ checkS p.1 = 0∨false = true)∨false = true):=by simp [hc]
    rw [if_neg h3];obtain ⟨r,hr1,hr2⟩:=fee_both p.1 p.2.1
    have e1:=scan_dec (s:=0) (step:=Lbuild_Valid_s1 p) (fun i=>(i : Int)) p.1.2.1 (fun x=>0 < x.2.2.length) (some false) (some (decide (r.2 = 0) && decide (r.1 = p.2.2.1))) (fun i hi hb=>by
     simp only [Lbuild_Valid_s1];rw [if_pos (by omega),idx_bind hi,if_neg (by omega),wi_succ hi (by omega)]) (fun i hi hb=>by
     simp only [Lbuild_Valid_s1];rw [if_pos (by omega),idx_bind hi,if_pos (by omega)];rfl) (by
     simp only [Lbuild_Valid_s1];rw [if_neg (by omega)];unfold Lbuild_Valid_k1;rw [if_neg hx,hr1]
     rfl) rfl
    have e2:=scan_dec (s:=0) (step:=Lref34_Valid_s1 p) (fun i=>(i : Int)) p.1.2.1 (fun x=>0 < x.2.2.length) (some false) (some (decide (r.2 = 0) && decide (r.1 = p.2.2.1))) (fun i hi hb=>by
     simp only [Lref34_Valid_s1];rw [if_pos (by omega),idx_bind hi,if_neg (by omega),wi_succ hi (by omega)]) (fun i hi hb=>by
     simp only [Lref34_Valid_s1];rw [if_pos (by omega),idx_bind hi,if_pos (by omega)];rfl) (by
     simp only [Lref34_Valid_s1];rw [if_neg (by omega)];unfold Lref34_Valid_k1;rw [hr2]
     rfl) rfl
    rw [e1,e2];split <;> exact ⟨_,rfl,rfl⟩
 ·have hc' : ¬ checkS p.1 = 0:=hc
  rw [if_pos hc',bind_some',bind_some',if_pos (.inl hc'),if_pos (.inl hc'),bind_some',if_pos (.inl (.inl hc'))];exact ⟨_,rfl,rfl⟩
end Go.Lc
end
section
/- Plans: what makes one valid. -/
namespace Go.Lc
open Go.RowKit
open Go.Av
set_option linter.unusedVariables false
set_option linter.unusedSimpArgs false

theorem outs_gen {t : Tapi_Tx} (h : checkS t = 0) {n : Int} (h0 : 0≤n) (hn : n≤4000000000000000000) : runLoop (Lspend_Fee_s2 t) (n,0) = if n - sumI (valsS t) < 0 then some (0,100) else some (n - sumI (valsS t),0):=by
 classical
 obtain ⟨_,h64⟩:=check0 h
 have hl : limS t:=by
  refine fits_lim ?_;by_cases hf : fitsS t = true
  ·exact hf
  ·unfold checkS at h
   rw [if_pos hf] at h;cases h
 have hsum : sumI (valsS t)≤2100000000000000:=by
  unfold checkS at h;split at h
  ·cases h
  ·split at h
   ·cases h
   ·split at h
    ·cases h
    ·omega
 have hp:=vals_pos hl;have hlen : (valsS t).length = t.2.2.1.length:=by simp [valsS]
 have hmono : ∀ i,sumI ((valsS t).take i)≤sumI (valsS t):=sumI_mono hp;have hpos : ∀ i,0≤sumI ((valsS t).take i):=fun i=>sumI_pos fun v hv=>hp v (List.mem_of_mem_take hv)
 have:=runLoop_to (step:=Lspend_Fee_s2 t) (fun i=>(n - sumI ((valsS t).take i),(i : Int))) t.2.2.1.length (x:=if n - sumI (valsS t) < 0 then some (0,100) else some (n - sumI (valsS t),0)) (fun i hi=>by
  have hs:=sumI_take (l:=valsS t) (i:=i) (by omega);have hg : (valsS t)[i]'(by omega) = (t.2.2.1[i]).1:=by simp [valsS]
  have h1:=hpos i;have h2:=hmono (i + 1);have h3:=hpos (i + 1);simp only [Lspend_Fee_s2];rw [if_pos (by omega),idx_bind hi,wi_succ hi (by omega),hs,hg];rw [hs,hg] at h2 h3;rw [wi _ (by omega)]
  congr 3
  omega) (by
  simp only [Lspend_Fee_s2];rw [if_neg (by omega),List.take_of_length_le (by omega)];unfold Lspend_Fee_k2
  rfl)
 simpa [sumI] using this
theorem outs_val {t : Tapi_Tx} (h : checkS t = 0) {n : Int} (h0 : sumI (valsS t)≤n) (h00 : 0≤n) (hn : n≤4000000000000000000) : runLoop (Lspend_Fee_s2 t) (n,0) = some (n - sumI (valsS t),0):=by
 rw [outs_gen h h00 hn,if_neg (by omega)]
theorem fee_val {t : Tapi_Tx} {l : List Tapi_Coin} (h : checkS t = 0) (hl : l.map (fun c=>c.1) = ptsS t) (hb : ¬ sumBad (coinV l)) (h0 : sumI (valsS t)≤sumI (coinV l)) : Lspend_Fee t l = some (sumI (coinV l) - sumI (valsS t),0):=by
 classical
 obtain ⟨h64,h65⟩:=check0 h;have hlen : l.length = t.2.1.length:=by have:=congrArg List.length hl; simpa [ptsS] using this
 have hs : sumI (coinV l)≤2100000000000000:=by
  unfold sumBad at hb;omega
 have h00 : 0≤sumI (coinV l):=sumI_pos fun v hv=>by
  have : ¬ (v < 0∨(2100000000000000 : Int) < v):=fun h=>hb (.inl ⟨v,hv,h⟩)
  omega
 unfold Lspend_Fee;rw [tx_check,bind_some',if_neg (by simp [h]),if_neg (by simp [hlen])];refine runLoop_to (step:=Lspend_Fee_s1 l t) (fun i=>(i : Int)) l.length (x:=some (sumI (coinV l) - sumI (valsS t),0)) (fun i hi=>?_) ?_
 ·have hi2 : i < t.2.1.length:=by omega
  have he : (l[i]).1 = (t.2.1[i]).1:=by
   have h1 : (l.map (fun c=>c.1))[i]? = (ptsS t)[i]? := by rw [hl]
   simpa [ptsS,hi,hi2] using h1
  simp only [Lspend_Fee_s1];rw [if_pos (by omega),idx_bind hi,idx_bind hi2,if_neg (by simp [he]),wi_succ hi (by omega)]
 ·simp only [Lspend_Fee_s1]
  rw [if_neg (by omega)];unfold Lspend_Fee_k1;rw [spend_sum (by omega),if_neg hb,bind_some',if_neg (by simp),outs_val h h0 h00 (by omega)]
theorem valid_of {p : Tapi_Plan} (h1 : checkS p.1 = 0) (h2 : cbS p.1 = false) (h3 : ∀ x∈p.1.2.1,x.2.2 = []) (h4 : -1≤p.2.2.2) (h5 : p.2.2.2 < p.1.2.2.1.length) (h6 : Lspend_Fee p.1 p.2.1 = some (p.2.2.1,0)) : Lbuild_Valid p = some true:=by
 obtain ⟨h64,h65⟩:=check0 h1;unfold Lbuild_Valid;rw [tx_check,bind_some',cb_eq,bind_some',if_neg (by simp [h1]),bind_some',if_neg (by simp [h1,h2])];refine runLoop_to (step:=Lbuild_Valid_s1 p) (fun i=>(i : Int)) p.1.2.1.length (x:=some true) (fun i hi=>?_) ?_
 ·simp only [Lbuild_Valid_s1]
  rw [if_pos (by omega),idx_bind hi,if_neg (by simp [h3 _ (List.getElem_mem hi)]),wi_succ hi (by omega)]
 ·simp only [Lbuild_Valid_s1]
  rw [if_neg (by omega)];unfold Lbuild_Valid_k1;rw [if_neg (by omega),h6,bind_some'];simp
theorem valid_inv {p : Tapi_Plan} (h : Lbuild_Valid p = some true) : checkS p.1 = 0∧cbS p.1 = false∧(∀ x∈p.1.2.1,x.2.2 = [])∧-1≤p.2.2.2∧p.2.2.2 < p.1.2.2.1.length∧Lspend_Fee p.1 p.2.1 = some (p.2.2.1,0):=by
 classical
 unfold Lbuild_Valid at h;rw [tx_check,bind_some',cb_eq,bind_some'] at h;by_cases h1 : checkS p.1 = 0
 ·rw [if_neg (by simp [h1]),bind_some'] at h
  obtain ⟨h64,h65⟩:=check0 h1;cases h2 : cbS p.1 with
  | true=>rw [h2,if_pos (by simp)] at h; cases h
  | false =>
   rw [h2,if_neg (by simp [h1])] at h
   have e1:=scan_dec (s:=0) (step:=Lbuild_Valid_s1 p) (fun i=>(i : Int)) p.1.2.1 (fun x=>0 < x.2.2.length) (some false) (Lbuild_Valid_k1 p) (fun i hi hb=>by
    simp only [Lbuild_Valid_s1];rw [if_pos (by omega),idx_bind hi,if_neg (by omega),wi_succ hi (by omega)]) (fun i hi hb=>by
    simp only [Lbuild_Valid_s1];rw [if_pos (by omega),idx_bind hi,if_pos (by omega)];rfl) (by
    simp only [Lbuild_Valid_s1]
    rw [if_neg (by omega)]) rfl
   rw [e1] at h;by_cases h3 : ∃ a∈p.1.2.1,0 < a.2.2.length
   ·rw [if_pos h3] at h; cases h
   ·rw [if_neg h3] at h
    unfold Lbuild_Valid_k1 at h;by_cases h4 : p.2.2.2 < (-1)∨(p.1.2.2.1.length : Int)≤p.2.2.2
    ·rw [if_pos h4] at h; cases h
    ·rw [if_neg h4] at h
     obtain ⟨r,hr,h5⟩:=Option.bind_eq_some_iff.1 h;injection h5 with h5;simp only [Bool.and_eq_true,decide_eq_true_eq] at h5;refine ⟨h1,rfl,fun x hx=>?_,by omega,by omega,?_⟩
     ·rcases hw : x.2.2 with _ | ⟨a,l⟩
      ·rfl
      ·exact (h3 ⟨x,hx,by rw [hw]; simp⟩).elim
     ·rw [hr]
      congr 1
      exact Prod.ext h5.2 h5.1
 ·rw [if_pos h1,bind_some',if_pos (.inl h1)] at h
  cases h
theorem fee_inv {t : Tapi_Tx} {l : List Tapi_Coin} {f : Int} (h : Lspend_Fee t l = some (f,0)) : checkS t = 0∧l.map (fun c=>c.1) = ptsS t∧¬ sumBad (coinV l)∧sumI (valsS t)≤sumI (coinV l)∧f = sumI (coinV l) - sumI (valsS t):=by
 classical
 unfold Lspend_Fee at h;rw [tx_check,bind_some'] at h;by_cases hc : checkS t = 0
 ·rw [if_neg (by simp [hc])] at h
  obtain ⟨h64,h65⟩:=check0 hc;by_cases hl : (l.length : Int) = (t.2.1.length : Int)
  ·rw [if_neg (by simp [hl])] at h
   have e1:=scan_dec (s:=0) (step:=Lspend_Fee_s1 l t) (fun i=>(i : Int)) (l.zip t.2.1) (fun x=>¬ (x.1.1.1 = x.2.1.1∧x.1.1.2 = x.2.1.2)) (some (0,101)) (Lspend_Fee_k1 l t) (fun i hi hb=>by
    have hi2 : i < l.length:=by simp at hi; omega
    have hi3 : i < t.2.1.length:=by simp at hi; omega
    simp only [List.getElem_zip] at hb;simp only [Lspend_Fee_s1];rw [if_pos (by omega),idx_bind hi2,idx_bind hi3,if_neg hb,wi_succ hi2 (by omega)]) (fun i hi hb=>by
    have hi2 : i < l.length:=by simp at hi; omega
    have hi3 : i < t.2.1.length:=by simp at hi; omega
    simp only [List.getElem_zip] at hb;simp only [Lspend_Fee_s1];rw [if_pos (by omega),idx_bind hi2,idx_bind hi3,if_pos hb];rfl) (by
    have : (l.zip t.2.1).length = l.length:=by simp; omega
    simp only [Lspend_Fee_s1]
    rw [if_neg (by omega)]) rfl
   rw [e1] at h;by_cases hx : ∃ a∈l.zip t.2.1,¬ (a.1.1.1 = a.2.1.1∧a.1.1.2 = a.2.1.2)
   ·rw [if_pos hx] at h; cases h
   ·rw [if_neg hx] at h
    unfold Lspend_Fee_k1 at h;rw [spend_sum (by omega)] at h;by_cases hb : sumBad (coinV l)
    ·rw [if_pos hb,bind_some',if_pos (by simp)] at h; cases h
    ·rw [if_neg hb,bind_some',if_neg (by simp)] at h
     have hs : sumI (coinV l)≤2100000000000000:=by
      unfold sumBad at hb;omega
     have h00 : 0≤sumI (coinV l):=sumI_pos fun v hv=>by
      have : ¬ (v < 0∨(2100000000000000 : Int) < v):=fun h=>hb (.inl ⟨v,hv,h⟩)
      omega
     dsimp only at h;rw [outs_gen hc h00 (by omega)] at h;split at h
     ·cases h
     ·injection h with h
      injection h with h _;refine ⟨hc,List.ext_getElem (by simp [ptsS]; omega) fun i h1 h2=>?_,hb,by omega,h.symm⟩;have hi2 : i < l.length:=by simpa using h1
      have hi3 : i < t.2.1.length:=by omega
      have hz : (l[i],t.2.1[i])∈l.zip t.2.1:=by
       rw [List.mem_iff_getElem];exact ⟨i,by simp; omega,by simp⟩
      have:=Classical.not_not.1 fun hn=>hx ⟨_,hz,hn⟩
      simp only [List.getElem_map];rw [pts_get hi3];exact Prod.ext this.1 this.2
  ·rw [if_pos hl] at h; cases h
 ·rw [if_pos hc] at h
  injection h with h;injection h with _ h;exact (hc h).elim
end Go.Lc
end
section
/- a way to compute lifted functions at given arguments: twins that the kernel can run -/
namespace Go.Lc
open Go.RowKit
open Go.Av
set_option linter.unusedVariables false
set_option linter.unusedSimpArgs false
class Force (α : Type) where
 force : {β : Type}→α→(α→β)→β
 eq : ∀ {β : Type} (a : α) (k : α→β),force a k = k a
noncomputable def forceN {β : Type} (n : Nat) (k : Nat→β) : β:=Nat.rec (motive:=fun _=>β) (k Nat.zero) (fun m _=>k (Nat.succ m)) n
theorem forceN_eq {β : Type} (n : Nat) (k : Nat→β) : forceN n k = k n:=by cases n <;> rfl
noncomputable instance : Force Nat:=⟨forceN,forceN_eq⟩
noncomputable def forceI {β : Type} (i : Int) (k : Int→β) : β:=Int.rec (motive:=fun _=>β) (fun n=>forceN n fun m=>k (Int.ofNat m)) (fun n=>forceN n fun m=>k (Int.negSucc m)) i
theorem forceI_eq {β : Type} (i : Int) (k : Int→β) : forceI i k = k i:=by
 cases i with
 | ofNat n=>exact forceN_eq n fun m=>k (Int.ofNat m)
 | negSucc n=>exact forceN_eq n fun m=>k (Int.negSucc m)
noncomputable instance : Force Int:=⟨forceI,forceI_eq⟩
noncomputable def forceB {β : Type} (b : Bool) (k : Bool→β) : β:=Bool.rec (motive:=fun _=>β) (k false) (k true) b
theorem forceB_eq {β : Type} (b : Bool) (k : Bool→β) : forceB b k = k b:=by cases b <;> rfl
noncomputable instance : Force Bool:=⟨forceB,forceB_eq⟩
noncomputable instance : Force Unit:=⟨fun _ k=>k (),fun _ _=>rfl⟩
noncomputable def forceP {α γ β : Type} [Force α] [Force γ] (p : α×γ) (k : α×γ→β) : β:=Prod.rec (motive:=fun _=>β) (fun a c=>Force.force a fun a=>Force.force c fun c=>k (a,c)) p
theorem forceP_eq {α γ β : Type} [Force α] [Force γ] (p : α×γ) (k : α×γ→β) : forceP p k = k p:=by
 obtain ⟨a,c⟩:=p;exact (Force.eq a _).trans (Force.eq c _)
noncomputable instance {α γ : Type} [Force α] [Force γ] : Force (α×γ):=⟨forceP,forceP_eq⟩
noncomputable def forceL {α β : Type} [Force α] (l : List α) (k : List α→β) : β:=List.rec (motive:=fun _=>(List α→β)→β) (fun k=>k []) (fun a _ ih k=>Force.force a fun a=>ih fun l=>k (a :: l)) l k
theorem forceL_eq {α β : Type} [Force α] (l : List α) (k : List α→β) : forceL l k = k l:=by
 induction l generalizing k with
 | nil=>rfl
 | cons a l ih =>
  refine (Force.eq (β:=β) a _).trans ?_;exact ih fun l=>k (a :: l)
noncomputable instance {α : Type} [Force α] : Force (List α):=⟨forceL,forceL_eq⟩
/-- an array anew: its length is looked at,not proved -/
noncomputable def forceA {n : Nat} {β : Type} (a : Arr n) (k : Arr n→β) : β:=forceL a.l fun l=>if h : Nat.beq l.length n = true then k ⟨l,Nat.eq_of_beq_eq_true h⟩ else k a
theorem forceA_eq {n : Nat} {β : Type} (a : Arr n) (k : Arr n→β) : forceA a k = k a:=by
 unfold forceA;rw [forceL_eq];split <;> rfl
noncomputable instance {n : Nat} : Force (Arr n):=⟨forceA,forceA_eq⟩
noncomputable instance {α γ : Type} [Force α] [Force γ] : Force (α ⊕ γ):=⟨fun x k=>Sum.rec (motive:=fun _=>_) (fun a=>Force.force a fun a=>k (.inl a)) (fun c=>Force.force c fun c=>k (.inr c)) x,fun x k=>by cases x <;> exact Force.eq _ _⟩
noncomputable instance {α : Type} [Force α] : Force (Option α):=⟨fun x k=>Option.rec (motive:=fun _=>_) (k none) (fun a=>Force.force a fun a=>k (some a)) x,fun x k=>by cases x <;> first | rfl | exact Force.eq _ _⟩
/-- what the first says,the second says too -/
def Le {α : Type} (o o' : Option α) : Prop:=∀ x,o = some x→o' = some x
theorem Le.refl {α : Type} (o : Option α) : Le o o:=fun _ h=>h
class Lec {α : Type} (o o' : Option α) : Prop where
 h : Le o o'
end Go.Lc
end
section
namespace Go.Lc
open Go.RowKit
open Go.Av
set_option maxRecDepth 100000
set_option linter.unusedSimpArgs false
set_option linter.unusedVariables false
end Go.Lc
end
section
/- lists of signatures: their order,and what two of them are together -/
namespace Go.Lc
open Go.RowKit
open Go.Av
set_option linter.unusedVariables false
set_option linter.unusedSimpArgs false
set_option maxRecDepth 100000

/-! numbers of four digits,and the order of signatures -/
def cmp4 (a b : Arr 4) : Int :=
 if a.at 3 < b.at 3 then -1 else if b.at 3 < a.at 3 then 1 else if a.at 2 < b.at 2 then -1 else if b.at 2 < a.at 2 then 1 else if a.at 1 < b.at 1 then -1 else if b.at 1 < a.at 1 then 1 else if a.at 0 < b.at 0 then -1 else if b.at 0 < a.at 0 then 1 else 0
def ltS (s t : Tapi_Signed) : Prop:=s.1 < t.1∨s.1 = t.1∧cmp4 s.2.1 t.2.1 < 0
noncomputable instance (s t : Tapi_Signed) : Decidable (ltS s t):=by unfold ltS; infer_instance
theorem cmp4_self (a : Arr 4) : cmp4 a a = 0:=by simp [cmp4]
theorem cmp4_lt {a b : Arr 4} : cmp4 a b < 0↔(a.at 3 < b.at 3∨a.at 3 = b.at 3∧(a.at 2 < b.at 2∨a.at 2 = b.at 2∧(a.at 1 < b.at 1∨a.at 1 = b.at 1∧a.at 0 < b.at 0))):=by
 unfold cmp4
 repeat' split
 all_goals omega
theorem ltS_irr (s : Tapi_Signed) : ¬ ltS s s:=by
 unfold ltS;rw [cmp4_self];omega
theorem ltS_trans {s t u : Tapi_Signed} (h : ltS s t) (h' : ltS t u) : ltS s u:=by
 unfold ltS at *;rw [cmp4_lt] at *;omega
/-! ascending lists -/
abbrev Asc (l : List Tapi_Signed) : Prop:=l.Pairwise ltS
theorem asc_ext {l m : List Tapi_Signed} (hl : Asc l) (hm : Asc m) (h : ∀ s,s∈l↔s∈m) : l = m:=by
 induction l generalizing m with
 | nil =>
  cases m with
  | nil=>rfl
  | cons b m=>exact absurd ((h b).2 (by simp)) (by simp)
 | cons a l ih =>
  cases m with
  | nil=>exact absurd ((h a).1 (by simp)) (by simp)
  | cons b m =>
   have hl' := List.pairwise_cons.1 hl;have hm' := List.pairwise_cons.1 hm
   have hab : a = b:=by
    rcases List.mem_cons.1 ((h a).1 (by simp)) with e | e
    ·exact e
    ·rcases List.mem_cons.1 ((h b).2 (by simp)) with f | f
     ·exact f.symm
     ·exact absurd (ltS_trans (hl'.1 b f) (hm'.1 a e)) (ltS_irr a)
   subst hab
   congr 1
   refine ih hl'.2 hm'.2 fun s=>?_
   constructor
   ·intro hs
    rcases List.mem_cons.1 ((h s).1 (List.mem_cons_of_mem _ hs)) with e | e
    ·subst e; exact absurd (hl'.1 s hs) (ltS_irr s)
    ·exact e
   ·intro hs
    rcases List.mem_cons.1 ((h s).2 (List.mem_cons_of_mem _ hs)) with e | e
    ·subst e; exact absurd (hm'.1 s hs) (ltS_irr s)
    ·exact e
/-- what both have,in order -/
def Union (x y z : List Tapi_Signed) : Prop:=Asc z∧∀ s,s∈z↔s∈x∨s∈y
theorem Union.ext {x y z z' : List Tapi_Signed} (h : Union x y z) (h' : Union x y z') : z = z' := asc_ext h.1 h'.1 fun s=>(h.2 s).trans (h'.2 s).symm
end Go.Lc
end
section
/- merging two lists of signatures: the program's way and the reference's give the same -/
namespace Go.Lc
open Go.RowKit
open Go.Av
set_option linter.unusedVariables false
set_option linter.unusedSimpArgs false
set_option maxRecDepth 100000

/-! a place in the list -/
/-! a signature is put into its place -/
/-! the reference's merge -/
/-! the program's merge -/
end Go.Lc
end
section
/- numbers of four digits as bytes,and back -/
namespace Go.Lc
open Go.RowKit
open Go.Av
set_option linter.unusedVariables false
set_option linter.unusedSimpArgs false
set_option maxRecDepth 100000

def ordA : Arr 4:=(((zA 4).put 0 18446744073709533559).put 1 18446744073709551615).put 2 18446744073709551615 |>.put 3 9223372036854775807
/-- a scalar -/
def scal (a : Arr 4) : Prop:=cmp4 a ordA < 0
instance (a : Arr 4) : Decidable (scal a):=by unfold scal; infer_instance
end Go.Lc
end
section
/- plans and partial transactions: copies,comparisons,validity -/
namespace Go.Lc
open Go.RowKit
open Go.Av
set_option linter.unusedVariables false
set_option linter.unusedSimpArgs false
set_option maxRecDepth 100000

/-! copies -/
/-- a plan whose lists are short -/
structure PlanB (p : Tapi_Plan) : Prop where
 inl : p.1.2.1.length≤1000
 inw : ∀ x∈p.1.2.1,x.2.2 = []
 oul : p.1.2.2.1.length≤1000
 ous : ∀ o∈p.1.2.2.1,o.2.length≤1000000
 col : p.2.1.length≤1000
 cos : ∀ c∈p.2.1,c.2.1.2.length≤1000000
theorem set_same {α : Type} {l : List α} {i : Nat} (h : i < l.length) {x : α} (hx : x = l[i]) : l.set i x = l:=by
 subst hx;exact List.set_getElem_self h
/-! comparisons -/
theorem rout_self (o : Tapi_Output) : Lref09_SameOut o o = some true:=by
 unfold Lref09_SameOut Lref01_Same;simp
/-! validity -/
noncomputable def planV (p : Tapi_Plan) : Bool:=(Lbuild_Valid p).getD false
theorem planV_eq (p : Tapi_Plan) : Lbuild_Valid p = some (planV p)∧Lref34_Valid p = some (planV p):=by
 obtain ⟨b,h1,h2⟩:=valid_both p;have : planV p = b:=by unfold planV; rw [h1]; rfl
 rw [this];exact ⟨h1,h2⟩
end Go.Lc
end
section
/- Replacement: signals and conflicts; law 36,signals. -/
namespace Go.Lc
open Go.RowKit
open Go.Av
set_option linter.unusedVariables false

theorem find_loop {α : Type} {step : Int→Option (Int ⊕ Int)} (l : List α) (b : α→Bool) (hlen : l.length≤9223372036854775807) (h : ∀ i (hi : i < l.length),step (i : Int) = if b l[i] = true then some (.inr (i : Int)) else some (.inl (IntKind.i64.wrap ((i : Int) + 1)))) (he : step (l.length : Int) = some (.inr (-1))) : (runLoop step 0).bind (fun y=>some (decide (0≤y))) = some (l.any b):=by
 by_cases hx : ∃ i,i < l.length∧∃ hi : i < l.length,b l[i] = true
 ·obtain ⟨m,hm,⟨_,hbm⟩,hmin⟩:=least_bad (fun i=>∃ hi : i < l.length,b l[i] = true) l.length hx
  have : runLoop step ((0 : Nat) : Int) = some (m : Int):=runLoop_to (fun i=>(i : Int)) m (x:=some (m : Int)) (fun i hi=>by
   rw [h i (by omega),if_neg (fun hb=>hmin i hi ⟨by omega,hb⟩),wi_succ hi (by omega)]) (by
   rw [h m hm,if_pos hbm]
   rfl)
  have e : runLoop step 0 = some (m : Int):=this;rw [e];have : l.any b = true:=List.any_eq_true.2 ⟨_,List.getElem_mem hm,hbm⟩;rw [this];simp
 ·have : runLoop step ((0 : Nat) : Int) = some (-1):=runLoop_to (fun i=>(i : Int)) l.length (x:=some (-1)) (fun i hi=>by
   rw [h i hi,if_neg (fun hb=>hx ⟨i,hi,hi,hb⟩),wi_succ hi (by omega)]) he
  have e : runLoop step 0 = some (-1):=this;rw [e]
  have : l.any b = false:=by
   rw [Bool.eq_false_iff];intro hb;obtain ⟨x,hx1,hx2⟩:=List.any_eq_true.1 hb;obtain ⟨i,hi,rfl⟩:=List.getElem_of_mem hx1;exact hx ⟨i,hi,hi,hx2⟩
  rw [this];rfl
theorem cf_sig {l : List Tapi_Input} (b : Tapi_Input→Bool) (hl : l.length≤1000000000) (hb : ∀ x∈l,Lreplace_Signals_1 x = some (b x)) : Lslices_ContainsFunc_of__api_Input_api_Input__replace_Signals_1 l = some (l.any b):=by
 unfold Lslices_ContainsFunc_of__api_Input_api_Input__replace_Signals_1 Lslices_IndexFunc_of__api_Input_api_Input__replace_Signals_1;refine find_loop l b (by omega) (fun i hi=>?_) ?_
 ·simp only [Lslices_IndexFunc_of__api_Input_api_Input__replace_Signals_1_s1]
  rw [if_pos (by omega),idx_bind hi,hb _ (List.getElem_mem hi),bind_some']
 ·simp only [Lslices_IndexFunc_of__api_Input_api_Input__replace_Signals_1_s1]
  rw [if_neg (by omega)];rfl
theorem cf_con2 {a1 : Tapi_Input} {l : List Tapi_Input} (b : Tapi_Input→Bool) (hl : l.length≤1000000000) (hb : ∀ x∈l,Lreplace_Conflict_1_1__r x a1 = some (b x)) : Lslices_ContainsFunc_of__api_Input_api_Input__replace_Conflict_1_1 l a1 = some (l.any b):=by
 unfold Lslices_ContainsFunc_of__api_Input_api_Input__replace_Conflict_1_1 Lslices_IndexFunc_of__api_Input_api_Input__replace_Conflict_1_1;refine find_loop l b (by omega) (fun i hi=>?_) ?_
 ·simp only [Lslices_IndexFunc_of__api_Input_api_Input__replace_Conflict_1_1_s1]
  rw [if_pos (by omega),idx_bind hi,hb _ (List.getElem_mem hi),bind_some']
 ·simp only [Lslices_IndexFunc_of__api_Input_api_Input__replace_Conflict_1_1_s1]
  rw [if_neg (by omega)];rfl
theorem cf_con1 {a1 : Tapi_Tx} {l : List Tapi_Input} (b : Tapi_Input→Bool) (hl : l.length≤1000000000) (hb : ∀ x∈l,Lreplace_Conflict_1__r x a1 = some (b x)) : Lslices_ContainsFunc_of__api_Input_api_Input__replace_Conflict_1 l a1 = some (l.any b):=by
 unfold Lslices_ContainsFunc_of__api_Input_api_Input__replace_Conflict_1 Lslices_IndexFunc_of__api_Input_api_Input__replace_Conflict_1;refine find_loop l b (by omega) (fun i hi=>?_) ?_
 ·simp only [Lslices_IndexFunc_of__api_Input_api_Input__replace_Conflict_1_s1]
  rw [if_pos (by omega),idx_bind hi,hb _ (List.getElem_mem hi),bind_some']
 ·simp only [Lslices_IndexFunc_of__api_Input_api_Input__replace_Conflict_1_s1]
  rw [if_neg (by omega)];rfl
theorem cf_a3 {l : List Tapi_Entry} (b : Tapi_Entry→Bool) (hl : l.length≤1000000000) (hb : ∀ x∈l,Lreplace_Accept_3 x = some (b x)) : Lslices_ContainsFunc_of__api_Entry_api_Entry__replace_Accept_3 l = some (l.any b):=by
 unfold Lslices_ContainsFunc_of__api_Entry_api_Entry__replace_Accept_3 Lslices_IndexFunc_of__api_Entry_api_Entry__replace_Accept_3;refine find_loop l b (by omega) (fun i hi=>?_) ?_
 ·simp only [Lslices_IndexFunc_of__api_Entry_api_Entry__replace_Accept_3_s1]
  rw [if_pos (by omega),idx_bind hi,hb _ (List.getElem_mem hi),bind_some']
 ·simp only [Lslices_IndexFunc_of__api_Entry_api_Entry__replace_Accept_3_s1]
  rw [if_neg (by omega)];rfl
theorem cf_a4 {a1 : Tapi_Tx} {l : List Tapi_Entry} (b : Tapi_Entry→Bool) (hl : l.length≤1000000000) (hb : ∀ x∈l,Lreplace_Accept_4__r x a1 = some (b x)) : Lslices_ContainsFunc_of__api_Entry_api_Entry__replace_Accept_4 l a1 = some (l.any b):=by
 unfold Lslices_ContainsFunc_of__api_Entry_api_Entry__replace_Accept_4 Lslices_IndexFunc_of__api_Entry_api_Entry__replace_Accept_4;refine find_loop l b (by omega) (fun i hi=>?_) ?_
 ·simp only [Lslices_IndexFunc_of__api_Entry_api_Entry__replace_Accept_4_s1]
  rw [if_pos (by omega),idx_bind hi,hb _ (List.getElem_mem hi),bind_some']
 ·simp only [Lslices_IndexFunc_of__api_Entry_api_Entry__replace_Accept_4_s1]
  rw [if_neg (by omega)];rfl
theorem cf_a5 {l : List Tapi_Entry} (b : Tapi_Entry→Bool) (hl : l.length≤1000000000) (hb : ∀ x∈l,Lreplace_Accept_5 x = some (b x)) : Lslices_ContainsFunc_of__api_Entry_api_Entry__replace_Accept_5 l = some (l.any b):=by
 unfold Lslices_ContainsFunc_of__api_Entry_api_Entry__replace_Accept_5 Lslices_IndexFunc_of__api_Entry_api_Entry__replace_Accept_5;refine find_loop l b (by omega) (fun i hi=>?_) ?_
 ·simp only [Lslices_IndexFunc_of__api_Entry_api_Entry__replace_Accept_5_s1]
  rw [if_pos (by omega),idx_bind hi,hb _ (List.getElem_mem hi),bind_some']
 ·simp only [Lslices_IndexFunc_of__api_Entry_api_Entry__replace_Accept_5_s1]
  rw [if_neg (by omega)];rfl

def sigS (t : Tapi_Tx) : Bool:=t.2.1.any fun x=>decide (x.2.1 < 4294967294)
def samePt (x y : Tapi_Input) : Bool:=decide (x.1.1 = y.1.1) && decide (x.1.2 = y.1.2)
def conS (s t : Tapi_Tx) : Bool:=s.2.1.any fun x=>t.2.1.any fun y=>samePt x y
section
variable {s t : Tapi_Tx}
theorem sig_eq (h : t.2.1.length≤1000000000) : Lreplace_Signals t = some (sigS t):=by
 unfold Lreplace_Signals;rw [cf_sig (fun x=>decide (x.2.1 < 4294967294)) h (fun x _=>rfl)];rfl
theorem rsig_eq (h : t.2.1.length≤1000000000) : Lref36_Signals t = some (sigS t):=by
 unfold Lref36_Signals
 rw [scan_dec (s:=0) (step:=Lref36_Signals_s1 t) (fun i=>(i : Int)) t.2.1 (fun x=>x.2.1 < 4294967294) (some true) (some false) (fun i hi hb=>by
  simp only [Lref36_Signals_s1];rw [if_pos (by omega),idx_bind hi,if_neg hb,wi_succ hi (by omega)]) (fun i hi hb=>by
  simp only [Lref36_Signals_s1];rw [if_pos (by omega),idx_bind hi,if_pos hb];rfl) (by
  simp only [Lref36_Signals_s1];rw [if_neg (by omega)]
  rfl) rfl]
 unfold sigS;by_cases hx : ∃ x∈t.2.1,x.2.1 < 4294967294
 ·rw [if_pos hx]
  have : (t.2.1.any fun x=>decide (x.2.1 < 4294967294)) = true:=by simpa using hx
  rw [this]
 ·rw [if_neg hx]
  have : (t.2.1.any fun x=>decide (x.2.1 < 4294967294)) = false:=by
   rw [Bool.eq_false_iff];intro hb;exact hx (by simpa using hb)
  rw [this]
theorem con_eq (hs : s.2.1.length≤1000000000) (h : t.2.1.length≤1000000000) : Lreplace_Conflict s t = some (conS s t):=by
 unfold Lreplace_Conflict;rw [cf_con1 (fun x=>t.2.1.any fun y=>samePt x y) hs (fun x _=>?_)]
 ·rfl
 ·unfold Lreplace_Conflict_1__r
  rw [cf_con2 (fun y=>samePt x y) h (fun y _=>rfl)];rfl
end
abbrev oneT (n : Int) : Tapi_Tx:=(0,[((zA 32,0),n,[])],[(1,[])],0)
theorem check_one (n : Int) : checkS (oneT n) = 0:=by
 classical
 have hf : fitsS (oneT n) = true:=by
  unfold fitsS
  have h1 : limS (oneT n):=by
   refine ⟨by simp,by simp,?_,?_⟩
   ·intro o ho
    simp only [List.mem_singleton] at ho;subst ho;simp
   ·intro x hx
    simp only [List.mem_singleton] at hx;subst hx;simp
  have h2:=enc_len (t:=oneT n) (w:=true);have h3 : encM (oneT n) = 220:=rfl;simp only [decide_eq_true_eq];exact ⟨h1,by omega⟩
 have hne : ¬ (zA 32,(0 : Int)) = nullP:=by
  intro h;have:=congrArg Prod.snd h;simp at this
 unfold checkS;rw [if_neg (by simp [hf]),if_neg (by simp),if_neg (by simp [valsS,sumI]),if_neg,if_neg]
 ·rintro ⟨hm,_⟩
  simp only [ptsS,List.map_cons,List.map_nil,List.mem_singleton] at hm;exact hne hm.symm
 ·rintro ⟨i,hi,_,hm⟩
  have h0 : i = 0:=by simp [ptsS] at hi; omega
  subst h0;simp at hm
theorem cb_one (n : Int) : cbS (oneT n) = false:=by
 have hne : ¬ (zA 32,(0 : Int)) = nullP:=by
  intro h;have:=congrArg Prod.snd h;simp at this
 simp [cbS,hne]
theorem sane36 : Llaw36_sane = some true:=by
 have s1 : Lreplace_Signals (oneT 4294967295) = some false:=by rw [sig_eq (by simp)]; simp [sigS]
 have s2 : Lreplace_Signals (oneT 4294967293) = some true:=by rw [sig_eq (by simp)]; simp [sigS]
 have c1 : Lreplace_Conflict (oneT 4294967295) (oneT 4294967293) = some true:=by rw [con_eq (by simp) (by simp)]; simp [conS,samePt]
 have ac : Lreplace_Accept [(oneT 4294967295,0)] (oneT 4294967293) 1000 = some 360:=by
  unfold Lreplace_Accept;rw [tx_check,check_one,bind_some',if_neg (by simp),cb_eq,cb_one,bind_some',if_neg (by simp)];unfold Lreplace_money Lreplace_Accept_1__replace_Accept_3_p Lreplace_Accept_1__replace_Accept_4_p Lreplace_Accept_1__replace_Accept_5_p;rw [cf_a3 (fun x=>false) (by simp) (fun x hx=>?_),cf_a4 (fun x=>false) (by simp) (fun x hx=>?_)]
  ·simp only [bind_some',List.any_cons,List.any_nil,Bool.or_false]
   rw [cf_a5 (fun x=>true) (by simp) (fun x hx=>?_)]
   ·simp
   ·simp only [List.mem_singleton] at hx
    subst hx;unfold Lreplace_Accept_5;rw [s1];rfl
  ·simp only [List.mem_singleton] at hx
   subst hx;unfold Lreplace_Accept_4__r;rw [c1];rfl
  ·simp only [List.mem_singleton] at hx
   subst hx;simp [Lreplace_Accept_3,Lreplace_money]
 unfold Llaw36_sane;rw [s1,s2,c1,ac];simp
end Go.Lc
end
