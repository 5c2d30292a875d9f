import Derived.Test.YtjdoijdjeapekaaGreatDoorLcG3
import Derived.Test.YtjdoijdjeapekaaGreatDoorLcG1
import Derived.KernelRfl
import Derived.Test.YtjdoijdjeapekaaGreatDoorLcG2
section
/- Transactions alone and with their coins: the program's tests and the reference's are the same; law 34,plans. -/
namespace Go.Lc
open Go.RowKit
open Go.Av
set_option linter.unusedVariables false

/-- a loop that stops at the first bad place; nothing before it was bad -/
theorem scan_pre {σ ρ : Type} {step : σ→Option (σ ⊕ ρ)} (enc : Nat→σ) (n : Nat) (bad : Nat→Prop) (rb x : Option ρ) [inst : Decidable (∃ i,i < n∧bad i)] (h : ∀ i,i < n→(∀ j,j < i→¬ bad j)→¬ bad i→step (enc i) = some (.inl (enc (i + 1)))) (hb : ∀ i,i < n→(∀ j,j < i→¬ bad j)→bad i→step (enc i) = rb.map .inr) (he : (∀ j,j < n→¬ bad j)→step (enc n) = x.map .inr) {s : σ} (hs : s = enc 0) : runLoop step s = if ∃ i,i < n∧bad i then rb else x:=by
 subst hs;by_cases hx : ∃ i,i < n∧bad i
 ·rw [if_pos hx]
  obtain ⟨m,hm,hbm,hmin⟩:=least_bad bad n hx;exact runLoop_to enc m (fun i hi=>h i (by omega) (fun j hj=>hmin j (by omega)) (hmin i hi)) (hb m hm hmin hbm)
 ·rw [if_neg hx]
  have hn : ∀ i,i < n→¬ bad i:=fun i hi hbi=>hx ⟨i,hi,hbi⟩
  exact runLoop_to enc n (fun i hi=>h i hi (fun j hj=>hn j (by omega)) (hn i hi)) (he hn)

/-! sums -/
def sumI : List Int→Int
 | []=>0
 | a :: l=>a + sumI l
theorem sumI_app (l m : List Int) : sumI (l++m) = sumI l + sumI m:=by
 induction l with
 | nil=>simp [sumI]
 | cons a l ih=>simp only [List.cons_append,sumI,ih]; omega
theorem sumI_take {l : List Int} {i : Nat} (h : i < l.length) : sumI (l.take (i + 1)) = sumI (l.take i) + l[i]:=by
 rw [List.take_succ_eq_append_getElem h,sumI_app];simp [sumI]
theorem sumI_pos {l : List Int} (h : ∀ v∈l,0≤v) : 0≤sumI l:=by
 induction l with
 | nil=>simp [sumI]
 | cons a l ih =>
  have h1:=h a (by simp);have h2:=ih fun v hv=>h v (by simp [hv])
  simp only [sumI];omega
theorem sumI_mono {l : List Int} (h : ∀ v∈l,0≤v) (i : Nat) : sumI (l.take i)≤sumI l:=by
 have h1 : sumI l = sumI (l.take i) + sumI (l.drop i):=by rw [← sumI_app,List.take_append_drop]
 have h2:=sumI_pos (l:=l.drop i) fun v hv=>h v (List.mem_of_mem_drop hv)
 omega
theorem sumI_le {l : List Int} {c : Int} (h : ∀ v∈l,v≤c) : sumI l≤l.length * c:=by
 induction l with
 | nil=>simp [sumI]
 | cons a l ih =>
  have h1:=h a (by simp);have h2:=ih fun v hv=>h v (by simp [hv])
  simp only [sumI,List.length_cons];have : ((l.length + 1 : Nat) : Int) * c = (l.length : Int) * c + c:=by rw [Int.natCast_add,Int.add_mul]; simp
  omega
theorem sum_bad (vs : List Int) (M : Int) (hM : 0≤M) : (∃ i,i < vs.length∧∃ h : i < vs.length,vs[i] < 0∨M < sumI (vs.take (i + 1)))↔(∃ v∈vs,v < 0∨M < v)∨M < sumI vs:=by
 by_cases hneg : ∃ v∈vs,v < 0
 ·obtain ⟨v,hv,hv0⟩:=hneg
  obtain ⟨i,hi,rfl⟩:=List.getElem_of_mem hv;exact ⟨fun _=>.inl ⟨_,hv,.inl hv0⟩,fun _=>⟨i,hi,hi,.inl hv0⟩⟩
 ·have hp : ∀ v∈vs,0≤v:=fun v hv=>by
   have : ¬ v < 0:=fun h=>hneg ⟨v,hv,h⟩
   omega
  constructor
  ·rintro ⟨i,_,hi,hb⟩
   have h1:=hp _ (List.getElem_mem hi);have h2:=sumI_mono hp (i + 1);exact .inr (by omega)
  ·intro h
   have key : M < sumI vs→∃ i,i < vs.length∧∃ h : i < vs.length,vs[i] < 0∨M < sumI (vs.take (i + 1)):=by
    intro hs
    have hn : 0 < vs.length:=by
     rcases Nat.eq_zero_or_pos vs.length with h0 | h0
     ·have:=List.length_eq_zero_iff.1 h0
      subst this;simp only [sumI] at hs;omega
     ·exact h0
    refine ⟨vs.length - 1,by omega,by omega,.inr ?_⟩;rw [show vs.length - 1 + 1 = vs.length by omega,List.take_length];exact hs
   rcases h with ⟨v,hv,hb⟩ | hs
   ·have h0:=hp v hv
    obtain ⟨i,hi,rfl⟩:=List.getElem_of_mem hv;refine ⟨i,hi,hi,.inr ?_⟩;rw [sumI_take hi];have:=sumI_pos (l:=vs.take i) fun v hv=>hp v (List.mem_of_mem_take hv)
    omega
   ·exact key hs

/-! points already seen -/
theorem mget_mput {K V : Type} [DecidableEq K] (k a : K) (v : V) (l : List (K×V)) : mget k (mput a v l) = if k = a then some v else mget k l:=by
 induction l with
 | nil=>simp [mput,mget]
 | cons x l ih =>
  obtain ⟨b,w⟩:=x;simp only [mput];by_cases h : a = b
  ·subst h
   rw [if_pos rfl];simp only [mget];by_cases hk : k = a <;> simp [hk]
  ·rw [if_neg h]
   simp only [mget,ih];by_cases hk : k = b
   ·subst hk
    simp [Ne.symm h]
   ·simp [hk]
def seen (l : List Tapi_OutPoint) : List (Tapi_OutPoint×Bool):=l.foldl (fun m p=>mput p true m) []
theorem seen_get (k : Tapi_OutPoint) (l : List Tapi_OutPoint) : ((mget k (seen l)).getD false = true)↔k∈l:=by
 have key : ∀ (l : List Tapi_OutPoint) (m : List (Tapi_OutPoint×Bool)),((mget k (l.foldl (fun m p=>mput p true m) m)).getD false = true)↔(k∈l∨(mget k m).getD false = true):=by
  intro l;induction l with
  | nil=>intro m; simp
  | cons a l ih =>
   intro m;rw [List.foldl_cons,ih,mget_mput];by_cases h : k = a
   ·simp [h]
   ·simp [h]
 have:=key l [];simpa [seen,mget] using this
theorem seen_take {l : List Tapi_OutPoint} {i : Nat} (h : i < l.length) : seen (l.take (i + 1)) = mput l[i] true (seen (l.take i)):=by
 unfold seen;rw [List.take_succ_eq_append_getElem h,List.foldl_append];rfl

/-! one transaction alone -/
abbrev nullP : Tapi_OutPoint:=(zA 32,4294967295)
def cbS (t : Tapi_Tx) : Bool:=match t.2.1 with
 | [x]=>decide (x.1 = nullP)
 | _=>false
theorem cb_eq (t : Tapi_Tx) : Ltx_Coinbase t = some (cbS t):=by
 obtain ⟨a,ins,outs,l⟩:=t;unfold Ltx_Coinbase Ltx_null cbS
 match ins with
 | []=>simp
 | [x]=>simp [Prod.ext_iff]
 | x :: y :: l =>
  have : ¬ ((x :: y :: l).length : Int) = 1:=by simp only [List.length_cons]; omega
  dsimp only;simp only [if_neg this,decide_eq_false this];rfl
theorem rcb_eq (t : Tapi_Tx) : Lref09_Coinbase t = some (cbS t):=by
 rw [← cb_eq];rfl
def valsS (t : Tapi_Tx) : List Int:=t.2.2.1.map Prod.fst
def ptsS (t : Tapi_Tx) : List Tapi_OutPoint:=t.2.1.map Prod.fst
def dupS (l : List Tapi_OutPoint) : Prop:=∃ i,i < l.length∧∃ h : i < l.length,l[i]∈l.take i
noncomputable def checkS (t : Tapi_Tx) : Int:=by
 classical exact if ¬ fitsS t = true then 4 else if t.2.1.length = 0∨t.2.2.1.length = 0 then 93 else if (2100000000000000 : Int) < sumI (valsS t) then 90 else if dupS (ptsS t) then 91 else if nullP∈ptsS t∧¬ cbS t = true then 92 else 0
theorem fits_lim {t : Tapi_Tx} (h : fitsS t = true) : limS t:=by
 classical
 unfold fitsS at h;simp only [decide_eq_true_eq] at h;exact h.1
section
variable {t : Tapi_Tx}
theorem vals_pos (h : limS t) : ∀ v∈valsS t,0≤v:=by
 intro v hv;obtain ⟨o,ho,rfl⟩:=List.mem_map.1 hv;exact (h.2.2.1 o ho).1
theorem money_eq (h : limS t) : Ltx_money t.2.2.1 = some (decide (¬ (2100000000000000 : Int) < sumI (valsS t))):=by
 classical
 have hp:=vals_pos h;have hl : (valsS t).length = t.2.2.1.length:=by simp [valsS]
 have hget : ∀ i (h1 : i < t.2.2.1.length),(valsS t)[i]'(by omega) = (t.2.2.1[i]).1:=by intro i h1; simp [valsS]
 unfold Ltx_money;have h64:=h.2.1
 have hbnd : ∀ i,(∀ j,j < i→¬ ∃ h : j < (valsS t).length,(valsS t)[j] < 0∨(2100000000000000 : Int) < sumI ((valsS t).take (j + 1)))→i≤(valsS t).length→0≤sumI ((valsS t).take i)∧sumI ((valsS t).take i)≤(2100000000000000 : Int):=by
  intro i hj hi;refine ⟨sumI_pos fun v hv=>hp v (List.mem_of_mem_take hv),?_⟩;cases i with
  | zero=>simp [sumI]
  | succ i =>
   have:=hj i (by omega);have h2 : ¬ (2100000000000000 : Int) < sumI ((valsS t).take (i + 1)):=fun h=>this ⟨by omega,.inr h⟩
   omega
 rw [scan_pre (s:=(0,0)) (step:=Ltx_money_s1 t.2.2.1) (fun i=>(sumI ((valsS t).take i),(i : Int))) (valsS t).length (fun i=>∃ h : i < (valsS t).length,(valsS t)[i] < 0∨(2100000000000000 : Int) < sumI ((valsS t).take (i + 1))) (some false) (some true) ?_ ?_ ?_ rfl]
 ·by_cases hs : (2100000000000000 : Int) < sumI (valsS t)
  ·rw [if_pos ((sum_bad _ _ (by decide)).2 (.inr hs))]
   simp [hs]
  ·rw [if_neg]
   ·simp [hs]
   ·intro hb
    rcases (sum_bad _ _ (by decide)).1 hb with ⟨v,hv,hb⟩ | hb
    ·have h0:=hp v hv
     have:=(sum_bad (valsS t) (2100000000000000 : Int) (by decide)).2 (.inl ⟨v,hv,hb⟩);obtain ⟨i,_,hi,hb'⟩:=this;have h1:=hp _ (List.getElem_mem hi);have h2:=sumI_mono hp (i + 1);omega
    ·exact hs hb
 ·intro i hi hj hb
  have hb0:=hbnd i hj (by omega);have hb1 : ¬ (2100000000000000 : Int) < sumI ((valsS t).take (i + 1)):=fun h=>hb ⟨hi,.inr h⟩
  have h0:=hp _ (List.getElem_mem hi);have hg:=hget i (by omega);rw [sumI_take hi] at hb1;simp only [Ltx_money_s1];rw [if_pos (by omega),idx_bind (by omega),wi _ (by omega),if_neg (by omega),wi _ (by omega),wi_succ hi (by omega),sumI_take hi,hg]
 ·intro i hi hj hb
  have hb0:=hbnd i hj (by omega);obtain ⟨_,hb⟩:=hb;have h0:=hp _ (List.getElem_mem hi);have hg:=hget i (by omega);rw [sumI_take hi] at hb;simp only [Ltx_money_s1];rw [if_pos (by omega),idx_bind (by omega),wi _ (by omega),if_pos (by omega)];rfl
 ·intro hj
  simp only [Ltx_money_s1];rw [if_neg (by omega)];rfl
theorem pts_len : (ptsS t).length = t.2.1.length:=by simp [ptsS]
theorem pts_get {i : Nat} (h1 : i < t.2.1.length) (h2 : i < (ptsS t).length) : (ptsS t)[i] = (t.2.1[i]).1:=by simp [ptsS]
theorem tx_check (t : Tapi_Tx) : Ltx_Check t = some (checkS t):=by
 classical
 unfold Ltx_Check checkS;rw [tx_fits,bind_some'];by_cases hf : fitsS t = true
 ·have hlim:=fits_lim hf
  have h64:=hlim.1;have hnf : ¬ ¬ fitsS t = true:=by simp [hf]
  rw [if_neg hnf,if_neg hnf];by_cases h0 : t.2.1.length = 0∨t.2.2.1.length = 0
  ·rw [if_pos (show (t.2.1.length : Int) = 0∨(t.2.2.1.length : Int) = 0 by omega),if_pos h0]
  ·rw [if_neg (show ¬ ((t.2.1.length : Int) = 0∨(t.2.2.1.length : Int) = 0) by omega),if_neg h0,money_eq hlim,bind_some']
   by_cases hs : (2100000000000000 : Int) < sumI (valsS t)
   ·rw [if_pos (by simp [hs]),if_pos hs]
   ·rw [if_neg (by simp [hs]),if_neg hs]
    have hl:=pts_len (t:=t);rw [scan_pre (s:=(0,[])) (step:=Ltx_Check_s1 t) (fun i=>((i : Int),seen ((ptsS t).take i))) (ptsS t).length (fun i=>∃ h : i < (ptsS t).length,(ptsS t)[i]∈(ptsS t).take i) (some 91) (some (if nullP∈ptsS t∧¬ cbS t = true then 92 else 0)) ?_ ?_ ?_ rfl]
    ·by_cases hd : dupS (ptsS t)
     ·rw [if_pos (show ∃ i,i < (ptsS t).length∧∃ h : i < (ptsS t).length,(ptsS t)[i]∈(ptsS t).take i from hd),if_pos hd]
     ·rw [if_neg (show ¬ ∃ i,i < (ptsS t).length∧∃ h : i < (ptsS t).length,(ptsS t)[i]∈(ptsS t).take i from hd),if_neg hd]
    ·intro i hi _ hb
     have hg:=pts_get (t:=t) (by omega) hi;simp only [Ltx_Check_s1];rw [if_pos (by omega),idx_bind (by omega),if_neg,wi_succ hi (by omega),seen_take hi,hg];rw [← hg,seen_get];exact fun h=>hb ⟨hi,h⟩
    ·intro i hi _ hb
     have hg:=pts_get (t:=t) (by omega) hi;simp only [Ltx_Check_s1];rw [if_pos (by omega),idx_bind (by omega),if_pos]
     ·rfl
     ·rw [← hg,seen_get]
      exact hb.2
    ·intro _
     simp only [Ltx_Check_s1];rw [if_neg (by omega),List.take_length];unfold Ltx_Check_k1;rw [cb_eq];by_cases hn : nullP∈ptsS t
     ·have hn' := (seen_get _ _).2 hn
      rw [if_pos hn'];cases hc : cbS t <;> simp [hn,hn']
     ·have hn' : ¬ _:=fun h=>hn ((seen_get nullP (ptsS t)).1 h)
      rw [if_neg hn'];simp [hn,hn']
 ·rw [if_pos hf,if_pos hf]
theorem ref_dup {i : Nat} (hi : i < t.2.1.length) (h64 : t.2.1.length≤64) : (runLoop (Lref09_Check_s4 (i : Int) t) 0) = (by classical exact if ∃ h : i < (ptsS t).length,(ptsS t)[i]∈(ptsS t).take i then some (.inr 91) else some (.inl ((i + 1 : Nat) : Int))):=by
 classical
 have hl:=pts_len (t:=t);have hgi:=pts_get hi (by omega);rw [scan_pre (s:=0) (step:=Lref09_Check_s4 (i : Int) t) (fun j=>(j : Int)) i (fun j=>∃ h : j < (ptsS t).length,(ptsS t)[i]'(by omega) = (ptsS t)[j]) (some (.inr 91)) (some (.inl ((i + 1 : Nat) : Int))) ?_ ?_ ?_ rfl]
 ·have e : (∃ j,j < i∧∃ h : j < (ptsS t).length,(ptsS t)[i]'(by omega) = (ptsS t)[j])↔∃ h : i < (ptsS t).length,(ptsS t)[i]∈(ptsS t).take i:=by
   constructor
   ·rintro ⟨j,hj,hj2,e⟩
    refine ⟨by omega,?_⟩;rw [e];exact List.mem_take_iff_getElem.2 ⟨j,by omega,rfl⟩
   ·rintro ⟨h,hm⟩
    obtain ⟨j,hj,e⟩:=List.mem_take_iff_getElem.1 hm;exact ⟨j,by omega,by omega,e.symm⟩
  simp only [e]
 ·intro j hj _ hb
  have hgj:=pts_get (t:=t) (i:=j) (by omega) (by omega);simp only [Lref09_Check_s4];rw [if_pos (by omega),idx_bind (by omega),idx_bind (by omega),if_neg,wi_succ hj (by omega)];intro h;exact hb ⟨by omega,by rw [hgi,hgj]; exact Prod.ext h.1 h.2⟩
 ·intro j hj _ hb
  have hgj:=pts_get (t:=t) (i:=j) (by omega) (by omega);obtain ⟨_,hb⟩:=hb;rw [hgi,hgj] at hb;simp only [Lref09_Check_s4];rw [if_pos (by omega),idx_bind (by omega),idx_bind (by omega),if_pos ⟨congrArg Prod.fst hb,congrArg Prod.snd hb⟩];rfl
 ·intro _
  simp only [Lref09_Check_s4];rw [if_neg (by omega)];simp only [Lref09_Check_k4,wi_succ hi (by omega)]
theorem ref_null (h64 : t.2.1.length≤64) : Lref09_Check_k2 t = (by classical exact some (if nullP∈ptsS t∧¬ cbS t = true then 92 else 0)):=by
 classical
 unfold Lref09_Check_k2;have hl:=pts_len (t:=t);rw [scan_pre (s:=0) (step:=Lref09_Check_s3 t) (fun j=>(j : Int)) (ptsS t).length (fun j=>∃ h : j < (ptsS t).length,(ptsS t)[j] = nullP∧¬ cbS t = true) (some 92) (some 0) ?_ ?_ ?_ rfl]
 ·have e : (∃ j,j < (ptsS t).length∧∃ h : j < (ptsS t).length,(ptsS t)[j] = nullP∧¬ cbS t = true)↔nullP∈ptsS t∧¬ cbS t = true:=by
   constructor
   ·rintro ⟨j,_,hj,e,hc⟩
    exact ⟨e ▸ List.getElem_mem hj,hc⟩
   ·rintro ⟨hm,hc⟩
    obtain ⟨j,hj,e⟩:=List.getElem_of_mem hm;exact ⟨j,hj,hj,e,hc⟩
  simp only [e];split <;> rfl
 ·intro i hi _ hb
  have hg:=pts_get (t:=t) (by omega) hi;simp only [Lref09_Check_s3];rw [if_pos (by omega),idx_bind (by omega),rcb_eq];unfold Lref09_Null;rw [bind_some'];by_cases hn : (t.2.1[i]'(by omega)).1 = nullP
  ·have hc : cbS t = true:=Decidable.byContradiction fun h=>hb ⟨hi,by rw [hg,hn],h⟩
   rw [hn];simp [hc,wi_succ hi (show (ptsS t).length≤9223372036854775807 by omega)]
  ·have hn' : ¬ ((decide ((t.2.1[i]'(by omega)).1.1 = zA 32) && decide ((t.2.1[i]'(by omega)).1.2 = 4294967295)) = true):=by
    simp only [Bool.and_eq_true,decide_eq_true_eq];exact fun h=>hn (Prod.ext h.1 h.2)
   rw [if_neg hn',bind_some',if_neg (fun h=>hn' h.1),wi_succ hi (by omega)]
 ·intro i hi _ hb
  have hg:=pts_get (t:=t) (by omega) hi;obtain ⟨_,hb,hc⟩:=hb;rw [hg] at hb;simp only [Lref09_Check_s3];rw [if_pos (by omega),idx_bind (by omega),rcb_eq];unfold Lref09_Null;rw [bind_some',hb];simp [hc]
 ·intro _
  simp only [Lref09_Check_s3];rw [if_neg (by omega)];rfl
theorem rtx_check (t : Tapi_Tx) : Lref09_Check t = some (checkS t):=by
 classical
 unfold Lref09_Check checkS;rw [rtx_fits,bind_some'];by_cases hf : fitsS t = true
 ·have hlim:=fits_lim hf
  have h64:=hlim.1;have h65:=hlim.2.1;have hp:=vals_pos hlim;have hnf : ¬ ¬ fitsS t = true:=by simp [hf]
  rw [if_neg hnf,if_neg hnf];by_cases h0 : t.2.1.length = 0∨t.2.2.1.length = 0
  ·rw [if_pos (show (t.2.1.length : Int) = 0∨(t.2.2.1.length : Int) = 0 by omega),if_pos h0]
  ·rw [if_neg (show ¬ ((t.2.1.length : Int) = 0∨(t.2.2.1.length : Int) = 0) by omega),if_neg h0]
   have hl : (valsS t).length = t.2.2.1.length:=by simp [valsS]
   have hget : ∀ i (h1 : i < t.2.2.1.length),(valsS t)[i]'(by omega) = (t.2.2.1[i]).1:=by intro i h1; simp [valsS]
   have hk1 : Lref09_Check_k1 (sumI (valsS t)) t = some (if (2100000000000000 : Int) < sumI (valsS t) then 90 else if dupS (ptsS t) then 91 else if nullP∈ptsS t∧¬ cbS t = true then 92 else 0):=by
    unfold Lref09_Check_k1;by_cases hs : (2100000000000000 : Int) < sumI (valsS t)
    ·rw [if_pos hs,if_pos hs]
    ·rw [if_neg hs,if_neg hs]
     have hl:=pts_len (t:=t);rw [scan_pre (s:=0) (step:=Lref09_Check_s2 t) (fun i=>(i : Int)) (ptsS t).length (fun i=>∃ h : i < (ptsS t).length,(ptsS t)[i]∈(ptsS t).take i) (some 91) (some (if nullP∈ptsS t∧¬ cbS t = true then 92 else 0)) ?_ ?_ ?_ rfl]
     ·by_cases hd : dupS (ptsS t)
      ·rw [if_pos (show ∃ i,i < (ptsS t).length∧∃ h : i < (ptsS t).length,(ptsS t)[i]∈(ptsS t).take i from hd),if_pos hd]
      ·rw [if_neg (show ¬ ∃ i,i < (ptsS t).length∧∃ h : i < (ptsS t).length,(ptsS t)[i]∈(ptsS t).take i from hd),if_neg hd]
     ·intro i hi _ hb
      simp only [Lref09_Check_s2];rw [if_pos (by omega),ref_dup (by omega) h64,if_neg hb]
     ·intro i hi _ hb
      simp only [Lref09_Check_s2];rw [if_pos (by omega),ref_dup (by omega) h64,if_pos hb];rfl
     ·intro _
      simp only [Lref09_Check_s2];rw [if_neg (by omega),ref_null h64]
   have hbnd : ∀ i,(∀ j,j < i→¬ ∃ h : j < (valsS t).length,(2100000000000000 : Int) < (valsS t)[j])→i≤(valsS t).length→0≤sumI ((valsS t).take i)∧sumI ((valsS t).take i)≤i * (2100000000000000 : Int):=by
    intro i hj hi;refine ⟨sumI_pos fun v hv=>hp v (List.mem_of_mem_take hv),?_⟩
    have:=sumI_le (l:=(valsS t).take i) (c:=(2100000000000000 : Int)) (fun v hv=>by
     obtain ⟨j,hj2,rfl⟩:=List.mem_take_iff_getElem.1 hv;have h1 : ¬ (2100000000000000 : Int) < (valsS t)[j]:=fun h=>hj j (by omega) ⟨by omega,h⟩
     omega)
    rw [List.length_take,Nat.min_eq_left hi] at this;exact this
   rw [scan_pre (s:=(0,0)) (step:=Lref09_Check_s1 t) (fun i=>(sumI ((valsS t).take i),(i : Int))) (valsS t).length (fun i=>∃ h : i < (valsS t).length,(2100000000000000 : Int) < (valsS t)[i]) (some 90) (Lref09_Check_k1 (sumI (valsS t)) t) ?_ ?_ ?_ rfl]
   ·rw [hk1]
    by_cases hx : ∃ i,i < (valsS t).length∧∃ h : i < (valsS t).length,(2100000000000000 : Int) < (valsS t)[i]
    ·rw [if_pos hx]
     obtain ⟨i,_,hi,hb⟩:=hx;have h1:=sumI_mono hp (i + 1);rw [sumI_take hi] at h1;have h2:=sumI_pos (l:=(valsS t).take i) fun v hv=>hp v (List.mem_of_mem_take hv)
     rw [if_pos (by omega)]
    ·rw [if_neg hx]
   ·intro i hi hj hb
    have hb0:=hbnd i hj (by omega);have hb1 : ¬ (2100000000000000 : Int) < (valsS t)[i]:=fun h=>hb ⟨hi,h⟩
    have h0:=hp _ (List.getElem_mem hi);have hg:=hget i (by omega);have hi64 : (i : Int)≤64:=by omega
    simp only [Lref09_Check_s1];rw [if_pos (by omega),idx_bind (by omega),if_neg (by omega),wi _ (by omega),wi_succ hi (by omega),sumI_take hi,hg]
   ·intro i hi hj hb
    obtain ⟨_,hb⟩:=hb;have hg:=hget i (by omega);simp only [Lref09_Check_s1];rw [if_pos (by omega),idx_bind (by omega),if_pos (by omega)];rfl
   ·intro _
    simp only [Lref09_Check_s1];rw [if_neg (by omega),List.take_length]
 ·rw [if_pos hf,if_pos hf]
end
theorem check0 {t : Tapi_Tx} (h : checkS t = 0) : t.2.1.length≤64∧t.2.2.1.length≤64:=by
 classical
 unfold checkS at h;by_cases hf : fitsS t = true
 ·have:=fits_lim hf
  exact ⟨this.1,this.2.1⟩
 ·rw [if_pos hf] at h
  omega
/-! coins -/
section
variable {l : List Tapi_Coin}
end
/-! plans -/
end Go.Lc
end
section
/- Replacement: signals and conflicts; law 36,signals. -/
namespace Go.Lc
open Go.RowKit
open Go.Av
set_option linter.unusedVariables false

theorem find_loop {α : Type} {step : Int→Option (Int ⊕ Int)} (l : List α) (b : α→Bool) (hlen : l.length≤9223372036854775807) (h : ∀ i (hi : i < l.length),step (i : Int) = if b l[i] = true then some (.inr (i : Int)) else some (.inl (IntKind.i64.wrap ((i : Int) + 1)))) (he : step (l.length : Int) = some (.inr (-1))) : (runLoop step 0).bind (fun y=>some (decide (0≤y))) = some (l.any b):=by
 by_cases hx : ∃ i,i < l.length∧∃ hi : i < l.length,b l[i] = true
 ·obtain ⟨m,hm,⟨_,hbm⟩,hmin⟩:=least_bad (fun i=>∃ hi : i < l.length,b l[i] = true) l.length hx
  have : runLoop step ((0 : Nat) : Int) = some (m : Int):=runLoop_to (fun i=>(i : Int)) m (x:=some (m : Int)) (fun i hi=>by
   rw [h i (by omega),if_neg (fun hb=>hmin i hi ⟨by omega,hb⟩),wi_succ hi (by omega)]) (by
   rw [h m hm,if_pos hbm]
   rfl)
  have e : runLoop step 0 = some (m : Int):=this;rw [e];have : l.any b = true:=List.any_eq_true.2 ⟨_,List.getElem_mem hm,hbm⟩;rw [this];simp
 ·have : runLoop step ((0 : Nat) : Int) = some (-1):=runLoop_to (fun i=>(i : Int)) l.length (x:=some (-1)) (fun i hi=>by
   rw [h i hi,if_neg (fun hb=>hx ⟨i,hi,hi,hb⟩),wi_succ hi (by omega)]) he
  have e : runLoop step 0 = some (-1):=this;rw [e]
  have : l.any b = false:=by
   rw [Bool.eq_false_iff];intro hb;obtain ⟨x,hx1,hx2⟩:=List.any_eq_true.1 hb;obtain ⟨i,hi,rfl⟩:=List.getElem_of_mem hx1;exact hx ⟨i,hi,hi,hx2⟩
  rw [this];rfl
theorem cf_sig {l : List Tapi_Input} (b : Tapi_Input→Bool) (hl : l.length≤1000000000) (hb : ∀ x∈l,Lreplace_Signals_1 x = some (b x)) : Lslices_ContainsFunc_of__api_Input_api_Input__replace_Signals_1 l = some (l.any b):=by
 unfold Lslices_ContainsFunc_of__api_Input_api_Input__replace_Signals_1 Lslices_IndexFunc_of__api_Input_api_Input__replace_Signals_1;refine find_loop l b (by omega) (fun i hi=>?_) ?_
 ·simp only [Lslices_IndexFunc_of__api_Input_api_Input__replace_Signals_1_s1]
  rw [if_pos (by omega),idx_bind hi,hb _ (List.getElem_mem hi),bind_some']
 ·simp only [Lslices_IndexFunc_of__api_Input_api_Input__replace_Signals_1_s1]
  rw [if_neg (by omega)];rfl
theorem cf_con2 {a1 : Tapi_Input} {l : List Tapi_Input} (b : Tapi_Input→Bool) (hl : l.length≤1000000000) (hb : ∀ x∈l,Lreplace_Conflict_1_1__r x a1 = some (b x)) : Lslices_ContainsFunc_of__api_Input_api_Input__replace_Conflict_1_1 l a1 = some (l.any b):=by
 unfold Lslices_ContainsFunc_of__api_Input_api_Input__replace_Conflict_1_1 Lslices_IndexFunc_of__api_Input_api_Input__replace_Conflict_1_1;refine find_loop l b (by omega) (fun i hi=>?_) ?_
 ·simp only [Lslices_IndexFunc_of__api_Input_api_Input__replace_Conflict_1_1_s1]
  rw [if_pos (by omega),idx_bind hi,hb _ (List.getElem_mem hi),bind_some']
 ·simp only [Lslices_IndexFunc_of__api_Input_api_Input__replace_Conflict_1_1_s1]
  rw [if_neg (by omega)];rfl
theorem cf_con1 {a1 : Tapi_Tx} {l : List Tapi_Input} (b : Tapi_Input→Bool) (hl : l.length≤1000000000) (hb : ∀ x∈l,Lreplace_Conflict_1__r x a1 = some (b x)) : Lslices_ContainsFunc_of__api_Input_api_Input__replace_Conflict_1 l a1 = some (l.any b):=by
 unfold Lslices_ContainsFunc_of__api_Input_api_Input__replace_Conflict_1 Lslices_IndexFunc_of__api_Input_api_Input__replace_Conflict_1;refine find_loop l b (by omega) (fun i hi=>?_) ?_
 ·simp only [Lslices_IndexFunc_of__api_Input_api_Input__replace_Conflict_1_s1]
  rw [if_pos (by omega),idx_bind hi,hb _ (List.getElem_mem hi),bind_some']
 ·simp only [Lslices_IndexFunc_of__api_Input_api_Input__replace_Conflict_1_s1]
  rw [if_neg (by omega)];rfl
theorem cf_a3 {l : List Tapi_Entry} (b : Tapi_Entry→Bool) (hl : l.length≤1000000000) (hb : ∀ x∈l,Lreplace_Accept_3 x = some (b x)) : Lslices_ContainsFunc_of__api_Entry_api_Entry__replace_Accept_3 l = some (l.any b):=by
 unfold Lslices_ContainsFunc_of__api_Entry_api_Entry__replace_Accept_3 Lslices_IndexFunc_of__api_Entry_api_Entry__replace_Accept_3;refine find_loop l b (by omega) (fun i hi=>?_) ?_
 ·simp only [Lslices_IndexFunc_of__api_Entry_api_Entry__replace_Accept_3_s1]
  rw [if_pos (by omega),idx_bind hi,hb _ (List.getElem_mem hi),bind_some']
 ·simp only [Lslices_IndexFunc_of__api_Entry_api_Entry__replace_Accept_3_s1]
  rw [if_neg (by omega)];rfl
theorem cf_a4 {a1 : Tapi_Tx} {l : List Tapi_Entry} (b : Tapi_Entry→Bool) (hl : l.length≤1000000000) (hb : ∀ x∈l,Lreplace_Accept_4__r x a1 = some (b x)) : Lslices_ContainsFunc_of__api_Entry_api_Entry__replace_Accept_4 l a1 = some (l.any b):=by
 unfold Lslices_ContainsFunc_of__api_Entry_api_Entry__replace_Accept_4 Lslices_IndexFunc_of__api_Entry_api_Entry__replace_Accept_4;refine find_loop l b (by omega) (fun i hi=>?_) ?_
 ·simp only [Lslices_IndexFunc_of__api_Entry_api_Entry__replace_Accept_4_s1]
  rw [if_pos (by omega),idx_bind hi,hb _ (List.getElem_mem hi),bind_some']
 ·simp only [Lslices_IndexFunc_of__api_Entry_api_Entry__replace_Accept_4_s1]
  rw [if_neg (by omega)];rfl
theorem cf_a5 {l : List Tapi_Entry} (b : Tapi_Entry→Bool) (hl : l.length≤1000000000) (hb : ∀ x∈l,Lreplace_Accept_5 x = some (b x)) : Lslices_ContainsFunc_of__api_Entry_api_Entry__replace_Accept_5 l = some (l.any b):=by
 unfold Lslices_ContainsFunc_of__api_Entry_api_Entry__replace_Accept_5 Lslices_IndexFunc_of__api_Entry_api_Entry__replace_Accept_5;refine find_loop l b (by omega) (fun i hi=>?_) ?_
 ·simp only [Lslices_IndexFunc_of__api_Entry_api_Entry__replace_Accept_5_s1]
  rw [if_pos (by omega),idx_bind hi,hb _ (List.getElem_mem hi),bind_some']
 ·simp only [Lslices_IndexFunc_of__api_Entry_api_Entry__replace_Accept_5_s1]
  rw [if_neg (by omega)];rfl

def sigS (t : Tapi_Tx) : Bool:=t.2.1.any fun x=>decide (x.2.1 < 4294967294)
def samePt (x y : Tapi_Input) : Bool:=decide (x.1.1 = y.1.1) && decide (x.1.2 = y.1.2)
def conS (s t : Tapi_Tx) : Bool:=s.2.1.any fun x=>t.2.1.any fun y=>samePt x y
section
variable {s t : Tapi_Tx}
theorem sig_eq (h : t.2.1.length≤1000000000) : Lreplace_Signals t = some (sigS t):=by
 unfold Lreplace_Signals;rw [cf_sig (fun x=>decide (x.2.1 < 4294967294)) h (fun x _=>rfl)];rfl
theorem rsig_eq (h : t.2.1.length≤1000000000) : Lref36_Signals t = some (sigS t):=by
 unfold Lref36_Signals
 rw [scan_dec (s:=0) (step:=Lref36_Signals_s1 t) (fun i=>(i : Int)) t.2.1 (fun x=>x.2.1 < 4294967294) (some true) (some false) (fun i hi hb=>by
  simp only [Lref36_Signals_s1];rw [if_pos (by omega),idx_bind hi,if_neg hb,wi_succ hi (by omega)]) (fun i hi hb=>by
  simp only [Lref36_Signals_s1];rw [if_pos (by omega),idx_bind hi,if_pos hb];rfl) (by
  simp only [Lref36_Signals_s1];rw [if_neg (by omega)]
  rfl) rfl]
 unfold sigS;by_cases hx : ∃ x∈t.2.1,x.2.1 < 4294967294
 ·rw [if_pos hx]
  have : (t.2.1.any fun x=>decide (x.2.1 < 4294967294)) = true:=by simpa using hx
  rw [this]
 ·rw [if_neg hx]
  have : (t.2.1.any fun x=>decide (x.2.1 < 4294967294)) = false:=by
   rw [Bool.eq_false_iff];intro hb;exact hx (by simpa using hb)
  rw [this]
theorem con_eq (hs : s.2.1.length≤1000000000) (h : t.2.1.length≤1000000000) : Lreplace_Conflict s t = some (conS s t):=by
 unfold Lreplace_Conflict;rw [cf_con1 (fun x=>t.2.1.any fun y=>samePt x y) hs (fun x _=>?_)]
 ·rfl
 ·unfold Lreplace_Conflict_1__r
  rw [cf_con2 (fun y=>samePt x y) h (fun y _=>rfl)];rfl
theorem rcon2 (h : t.2.1.length≤1000000000) {i : Nat} (hi : i < s.2.1.length) (hs : s.2.1.length≤1000000000) : runLoop (Lref36_Conflict_s2 t s (i : Int)) 0 = if ∃ y∈t.2.1,samePt s.2.1[i] y = true then some (.inr true) else some (.inl ((i + 1 : Nat) : Int)):=by
 refine scan_dec (step:=Lref36_Conflict_s2 t s (i : Int)) (fun j=>(j : Int)) t.2.1 (fun y=>samePt s.2.1[i] y = true) (some (.inr true)) (some (.inl ((i + 1 : Nat) : Int))) (fun j hj hb=>?_) (fun j hj hb=>?_) ?_ rfl
 ·simp only [Lref36_Conflict_s2]
  rw [if_pos (by omega),idx_bind hi,idx_bind hj,if_neg,wi_succ hj (by omega)];intro hc;exact hb (by simp [samePt,hc.1,hc.2])
 ·simp only [Lref36_Conflict_s2]
  rw [if_pos (by omega),idx_bind hi,idx_bind hj,if_pos]
  ·rfl
  ·simpa [samePt] using hb
 ·simp only [Lref36_Conflict_s2]
  rw [if_neg (by omega)];simp only [Lref36_Conflict_k2,wi_succ hi (show s.2.1.length≤9223372036854775807 by omega)]
theorem rcon_eq (hs : s.2.1.length≤1000000000) (h : t.2.1.length≤1000000000) : Lref36_Conflict s t = some (conS s t):=by
 classical
 unfold Lref36_Conflict
 rw [scan_dec (s:=0) (step:=Lref36_Conflict_s1 s t) (fun i=>(i : Int)) s.2.1 (fun x=>∃ y∈t.2.1,samePt x y = true) (some true) (some false) (fun i hi hb=>by
  simp only [Lref36_Conflict_s1];rw [if_pos (by omega),rcon2 h hi hs,if_neg hb]) (fun i hi hb=>by
  simp only [Lref36_Conflict_s1];rw [if_pos (by omega),rcon2 h hi hs,if_pos hb];rfl) (by
  simp only [Lref36_Conflict_s1];rw [if_neg (by omega)]
  rfl) rfl]
 unfold conS;by_cases hx : ∃ x∈s.2.1,∃ y∈t.2.1,samePt x y = true
 ·rw [if_pos hx]
  have : (s.2.1.any fun x=>t.2.1.any fun y=>samePt x y) = true:=by simpa [List.any_eq_true] using hx
  rw [this]
 ·rw [if_neg hx]
  have : (s.2.1.any fun x=>t.2.1.any fun y=>samePt x y) = false:=by
   rw [Bool.eq_false_iff];intro hb;exact hx (by simpa [List.any_eq_true] using hb)
  rw [this]
end
abbrev oneT (n : Int) : Tapi_Tx:=(0,[((zA 32,0),n,[])],[(1,[])],0)
theorem check_one (n : Int) : checkS (oneT n) = 0:=by
 classical
 have hf : fitsS (oneT n) = true:=by
  unfold fitsS
  have h1 : limS (oneT n):=by
   refine ⟨by simp,by simp,?_,?_⟩
   ·intro o ho
    simp only [List.mem_singleton] at ho;subst ho;simp
   ·intro x hx
    simp only [List.mem_singleton] at hx;subst hx;simp
  have h2:=enc_len (t:=oneT n) (w:=true);have h3 : encM (oneT n) = 220:=rfl;simp only [decide_eq_true_eq];exact ⟨h1,by omega⟩
 have hne : ¬ (zA 32,(0 : Int)) = nullP:=by
  intro h;have:=congrArg Prod.snd h;simp at this
 unfold checkS;rw [if_neg (by simp [hf]),if_neg (by simp),if_neg (by simp [valsS,sumI]),if_neg,if_neg]
 ·rintro ⟨hm,_⟩
  simp only [ptsS,List.map_cons,List.map_nil,List.mem_singleton] at hm;exact hne hm.symm
 ·rintro ⟨i,hi,_,hm⟩
  have h0 : i = 0:=by simp [ptsS] at hi; omega
  subst h0;simp at hm
theorem cb_one (n : Int) : cbS (oneT n) = false:=by
 have hne : ¬ (zA 32,(0 : Int)) = nullP:=by
  intro h;have:=congrArg Prod.snd h;simp at this
 simp [cbS,hne]
theorem sane36 : Llaw36_sane = some true:=by
 have s1 : Lreplace_Signals (oneT 4294967295) = some false:=by rw [sig_eq (by simp)]; simp [sigS]
 have s2 : Lreplace_Signals (oneT 4294967293) = some true:=by rw [sig_eq (by simp)]; simp [sigS]
 have c1 : Lreplace_Conflict (oneT 4294967295) (oneT 4294967293) = some true:=by rw [con_eq (by simp) (by simp)]; simp [conS,samePt]
 have ac : Lreplace_Accept [(oneT 4294967295,0)] (oneT 4294967293) 1000 = some 360:=by
  unfold Lreplace_Accept;rw [tx_check,check_one,bind_some',if_neg (by simp),cb_eq,cb_one,bind_some',if_neg (by simp)];unfold Lreplace_money Lreplace_Accept_1__replace_Accept_3_p Lreplace_Accept_1__replace_Accept_4_p Lreplace_Accept_1__replace_Accept_5_p;rw [cf_a3 (fun x=>false) (by simp) (fun x hx=>?_),cf_a4 (fun x=>false) (by simp) (fun x hx=>?_)]
  ·simp only [bind_some',List.any_cons,List.any_nil,Bool.or_false]
   rw [cf_a5 (fun x=>true) (by simp) (fun x hx=>?_)]
   ·simp
   ·simp only [List.mem_singleton] at hx
    subst hx;unfold Lreplace_Accept_5;rw [s1];rfl
  ·simp only [List.mem_singleton] at hx
   subst hx;unfold Lreplace_Accept_4__r;rw [c1];rfl
  ·simp only [List.mem_singleton] at hx
   subst hx;simp [Lreplace_Accept_3,Lreplace_money]
 unfold Llaw36_sane;rw [s1,s2,c1,ac];simp
end Go.Lc
end
section
/- SHA-256: the program's rounds and the reference's are the same. -/
namespace Go.Lc
open Go.RowKit
open Go.Av
set_option linter.unusedVariables false

theorem wrap_nn {k : IntKind} (h : k.signed = false) (x : Int) : 0≤k.wrap x:=by
 cases k <;> simp [IntKind.signed] at h <;> simp [IntKind.wrap,IntKind.signed,IntKind.bits] <;> omega
theorem bits_nn {k : IntKind} (h : k.signed = false) (op : BinOp) (x y : Int) : 0≤bits op k x y:=wrap_nn h _
def rot (x n : Int) : Int:=bits .or .u32 (IntKind.u32.wrap (x * (2 ^ (min (bits .and .u64 (IntKind.u64.wrap n) 31).toNat 32)))) (x.fdiv (2 ^ (min (IntKind.u64.wrap (32 - (bits .and .u64 (IntKind.u64.wrap n) 31))).toNat 32)))
theorem rot_eq (x n : Int) : Lmath_bits_RotateLeft32 x n = some (rot x n):=by
 have h1 : ¬ bits .and .u64 (IntKind.u64.wrap n) 31 < 0:=by have:=bits_nn (k:=.u64) rfl .and (IntKind.u64.wrap n) 31; omega
 have h2 : ¬ IntKind.u64.wrap (32 - bits .and .u64 (IntKind.u64.wrap n) 31) < 0:=by have:=wrap_nn (k:=.u64) rfl (32 - bits .and .u64 (IntKind.u64.wrap n) 31); omega
 unfold Lmath_bits_RotateLeft32;rw [chk_bind h1,chk_bind h2];rfl
def rr (x n : Int) : Int:=rot x (IntKind.i64.wrap (-n))
theorem rr_eq (x n : Int) : Lsha_rotr x n = some (rr x n):=by
 unfold Lsha_rotr;rw [rot_eq];rfl
theorem rrr_eq (x n : Int) : Lref03_rotr x n = some (rr x n):=by
 unfold Lref03_rotr;rw [rot_eq];rfl

/-! the words of a block -/
def wd (b : Arr 64) (i : Nat) : Nat→Int
 | 0=>0
 | j + 1=>bits .or .u32 (IntKind.u32.wrap (wd b i j * 256)) (IntKind.u32.wrap (b.at (4 * i + j)))
def sch1 (b : Arr 64) : Nat→Arr 64
 | 0=>zA 64
 | i + 1=>(sch1 b i).put i (wd b i 4)
theorem sch1_at (b : Arr 64) : ∀ (i j : Nat),i≤j→(sch1 b i).at j = 0
 | 0,j,_=>zA_at
 | i + 1,j,h=>by
  unfold sch1;rw [Arr.at_put_ne _ (by omega)];exact sch1_at b i j (by omega)
def nxtW (w : Arr 64) (i : Nat) : Int:=IntKind.u32.wrap ((IntKind.u32.wrap ((IntKind.u32.wrap ((w.at (i - 16)) + (bits .xor .u32 (bits .xor .u32 (rr (w.at (i - 15)) 7) (rr (w.at (i - 15)) 18)) ((w.at (i - 15)).fdiv 8)))) + (w.at (i - 7)))) + (bits .xor .u32 (bits .xor .u32 (rr (w.at (i - 2)) 17) (rr (w.at (i - 2)) 19)) ((w.at (i - 2)).fdiv 1024)))
def sch2 (w : Arr 64) : Nat→Arr 64
 | 0=>w
 | k + 1=>(sch2 w k).put (16 + k) (nxtW (sch2 w k) (16 + k))
def sched (b : Arr 64) : Arr 64:=sch2 (sch1 b 16) 48
theorem inA_at {n i : Nat} {z : Int} {β : Type} {f : Nat→Option β} (h : z = (i : Int)) (hi : i < n) : (inA n z).bind f = f i:=by
 subst h;exact inA_bind hi
theorem sch_k1 (w : Arr 64) : Lsha_schedule_k1 w = some (sch2 w 48):=by
 unfold Lsha_schedule_k1
 have:=runLoop_to (step:=Lsha_schedule_s2) (fun k=>(((16 + k : Nat) : Int),sch2 w k)) 48 (x:=some (sch2 w 48)) (fun k hk=>by
  simp only [Lsha_schedule_s2];rw [if_pos (by omega),inA_at (i:=16 + k - 15) (by rw [wi _ (by omega)]; omega) (by omega),rr_eq,bind_some',rr_eq,bind_some',inA_at (i:=16 + k - 2) (by rw [wi _ (by omega)]; omega) (by omega),rr_eq,bind_some',rr_eq,bind_some',inA_at (i:=16 + k - 16) (by rw [wi _ (by omega)]; omega) (by omega),inA_at (i:=16 + k - 7) (by rw [wi _ (by omega)]; omega) (by omega),inA_at (i:=16 + k) rfl (by omega),wi _ (by omega)];rfl) (by
  simp only [Lsha_schedule_s2];rw [if_neg (by omega)]
  rfl)
 exact this
theorem ref_k1 (w : Arr 64) : Lref03_schedule_k1 w = some (sch2 w 48):=by
 unfold Lref03_schedule_k1
 have:=runLoop_to (step:=Lref03_schedule_s2) (fun k=>(((16 + k : Nat) : Int),sch2 w k)) 48 (x:=some (sch2 w 48)) (fun k hk=>by
  simp only [Lref03_schedule_s2];rw [if_pos (by omega),inA_at (i:=16 + k - 15) (by rw [wi _ (by omega)]; omega) (by omega),rrr_eq,bind_some',rrr_eq,bind_some',inA_at (i:=16 + k - 2) (by rw [wi _ (by omega)]; omega) (by omega),rrr_eq,bind_some',rrr_eq,bind_some',inA_at (i:=16 + k - 16) (by rw [wi _ (by omega)]; omega) (by omega),inA_at (i:=16 + k - 7) (by rw [wi _ (by omega)]; omega) (by omega),inA_at (i:=16 + k) rfl (by omega),wi _ (by omega)];rfl) (by
  simp only [Lref03_schedule_s2];rw [if_neg (by omega)]
  rfl)
 exact this
theorem sched_eq (b : Arr 64) : Lsha_schedule b = some (sched b):=by
 unfold Lsha_schedule;refine runLoop_to (step:=Lsha_schedule_s1 b) (fun i=>((i : Int),sch1 b i)) 16 (x:=some (sched b)) (fun i hi=>?_) ?_
 ·simp only [Lsha_schedule_s1]
  rw [if_pos (by omega)]
  have h0 : sch1 b i = (sch1 b i).put i (wd b i 0):=by
   have:=Arr.put_at (sch1 b i) (i:=i) (by omega);rw [sch1_at b i i (Nat.le_refl _)] at this;exact this.symm
  have:=runLoop_to (step:=Lsha_schedule_s3 (i : Int) b) (fun j=>((j : Int),(sch1 b i).put i (wd b i j))) 4 (x:=some (.inl (((i + 1 : Nat) : Int),(sch1 b i).put i (wd b i 4)))) (fun j hj=>by
   simp only [Lsha_schedule_s3];rw [if_pos (by omega),inA_bind (by omega),inA_at (i:=4 * i + j) (by rw [wi (4 * (i : Int)) (by omega),wi _ (by omega)]; omega) (by omega),Arr.at_put _ (by omega),Arr.put_put,wi_succ hj (by omega)];rfl) (by
   simp only [Lsha_schedule_s3];rw [if_neg (by omega)]
   simp only [Lsha_schedule_k3,wi_succ hi (show (16 : Nat)≤9223372036854775807 by omega)])
  have e : runLoop (Lsha_schedule_s3 (i : Int) b) (0,sch1 b i) = _:=(congrArg (fun w=>runLoop (Lsha_schedule_s3 (i : Int) b) (0,w)) h0).trans this;rw [e];rfl
 ·simp only [Lsha_schedule_s1]
  rw [if_neg (by omega),sch_k1];rfl

/-! words as bit vectors -/
abbrev bv (x : Int) : BitVec 32:=BitVec.ofInt 32 x
theorem wrap_u32 (x : Int) : IntKind.u32.wrap x = x % 2 ^ 32:=by simp [IntKind.wrap,IntKind.signed,IntKind.bits]
theorem bv_wrap (x : Int) : bv (IntKind.u32.wrap x) = bv x:=by
 rw [wrap_u32];apply BitVec.eq_of_toNat_eq
 simp [BitVec.toNat_ofInt]
theorem bv_or (x y : Int) : bv (bits .or .u32 x y) = bv x ||| bv y:=by
 show bv (IntKind.u32.wrap ((bv x ||| bv y).toNat : Nat)) = _
 rw [bv_wrap];generalize bv x ||| bv y = r
 show BitVec.ofInt 32 (r.toNat : Int) = r
 rw [BitVec.ofInt_natCast,BitVec.ofNat_toNat];simp
theorem or_congr {x x' y y' : Int} (h1 : bv x = bv x') (h2 : bv y = bv y') : bits .or .u32 x y = bits .or .u32 x' y' := by
 show IntKind.u32.wrap ((bv x ||| bv y).toNat : Nat) = IntKind.u32.wrap ((bv x' ||| bv y').toNat : Nat)
 rw [h1,h2]
theorem bv_shl (x : Int) (k : Nat) (h : BitVec.ofInt 32 (2 ^ k) = BitVec.twoPow 32 k) : bv (x * 2 ^ k) = bv x <<< k:=by
 rw [BitVec.shiftLeft_eq_mul_twoPow,← h];exact BitVec.ofInt_mul _ _
def wr (b : Arr 64) (i : Nat) : Int:=bits .or .u32 (bits .or .u32 (bits .or .u32 (IntKind.u32.wrap ((IntKind.u32.wrap (b.at (4 * i))) * 16777216)) (IntKind.u32.wrap ((IntKind.u32.wrap (b.at (4 * i + 1))) * 65536))) (IntKind.u32.wrap ((IntKind.u32.wrap (b.at (4 * i + 2))) * 256))) (IntKind.u32.wrap (b.at (4 * i + 3)))
theorem wr_wd (b : Arr 64) (i : Nat) : wr b i = wd b i 4:=by
 unfold wr;simp only [wd];refine or_congr ?_ rfl;have e8 : ∀ x,bv (x * 256) = bv x <<< 8:=fun x=>bv_shl x 8 (by decide)
 have e16 : ∀ x,bv (x * 65536) = bv x <<< 16:=fun x=>bv_shl x 16 (by decide)
 have e24 : ∀ x,bv (x * 16777216) = bv x <<< 24:=fun x=>bv_shl x 24 (by decide)
 simp only [bv_or,bv_wrap,e8,e16,e24];have h0 : (bv 0) <<< 8 = 0#32:=by decide
 simp only [h0,BitVec.shiftLeft_or_distrib,← BitVec.shiftLeft_add,BitVec.zero_or,Nat.add_zero]
theorem rsched_eq (b : Arr 64) : Lref03_schedule b = some (sched b):=by
 unfold Lref03_schedule;refine runLoop_to (step:=Lref03_schedule_s1 b) (fun i=>((i : Int),sch1 b i)) 16 (x:=some (sched b)) (fun i hi=>?_) ?_
 ·simp only [Lref03_schedule_s1]
  rw [if_pos (by omega),wi (4 * (i : Int)) (by omega),wi (4 * (i : Int) + 1) (by omega),wi (4 * (i : Int) + 2) (by omega),wi (4 * (i : Int) + 3) (by omega),inA_at (i:=4 * i) (by omega) (by omega),inA_at (i:=4 * i + 1) (by omega) (by omega),inA_at (i:=4 * i + 2) (by omega) (by omega),inA_at (i:=4 * i + 3) (by omega) (by omega),inA_bind (by omega),wi_succ hi (by omega)];show some (Sum.inl (((i + 1 : Nat) : Int),(sch1 b i).put i (wr b i))) = _
  rw [wr_wd];rfl
 ·simp only [Lref03_schedule_s1]
  rw [if_neg (by omega),ref_k1];rfl
theorem consts : Lref03_constants = some shaK:=by
 unfold Lref03_constants
 kernel_rfl
theorem inits : Lref03_Initial = some shaInitial:=by
 unfold Lref03_Initial
 kernel_rfl

/-! rounds -/
abbrev St8:=Int×Int×Int×Int×Int×Int×Int×Int
abbrev ad (x y : Int) : Int:=IntKind.u32.wrap (x + y)
def t1 (s : St8) (k w : Int) : Int:=match s with
 | (a,b,c,d,e,f,g,h)=>ad (ad (ad (ad h (bits .xor .u32 (bits .xor .u32 (rr e 6) (rr e 11)) (rr e 25))) (bits .xor .u32 (bits .and .u32 e f) (bits .and .u32 (bits .xor .u32 4294967295 e) g))) k) w
def t2 (s : St8) : Int:=match s with
 | (a,b,c,d,e,f,g,h)=>ad (bits .xor .u32 (bits .xor .u32 (rr a 2) (rr a 13)) (rr a 22)) (bits .xor .u32 (bits .xor .u32 (bits .and .u32 a b) (bits .and .u32 a c)) (bits .and .u32 b c))
def rnd (s : St8) (k w : Int) : St8:=match s with
 | (a,b,c,d,e,f,g,h)=>(ad (t1 s k w) (t2 s),a,b,c,ad d (t1 s k w),e,f,g)
def rnds (w : Arr 64) (s : St8) : Nat→St8
 | 0=>s
 | i + 1=>rnd (rnds w s i) (shaK.at i) (w.at i)
def st0 (x : Arr 8) : St8:=(x.at 0,x.at 1,x.at 2,x.at 3,x.at 4,x.at 5,x.at 6,x.at 7)
noncomputable def comp (x : Arr 8) (b : Arr 64) : Arr 8:=match rnds (sched b) (st0 x) 64 with
 | (a,b,c,d,e,f,g,h)=>((((((((zA 8).put 0 (IntKind.u32.wrap ((x.at 0) + a))).put 1 (IntKind.u32.wrap ((x.at 1) + b))).put 2 (IntKind.u32.wrap ((x.at 2) + c))).put 3 (IntKind.u32.wrap ((x.at 3) + d))).put 4 (IntKind.u32.wrap ((x.at 4) + e))).put 5 (IntKind.u32.wrap ((x.at 5) + f))).put 6 (IntKind.u32.wrap ((x.at 6) + g))).put 7 (IntKind.u32.wrap ((x.at 7) + h))
def enc9 (s : St8) (i : Nat) : Int×Int×Int×Int×Int×Int×Int×Int×Int:=match s with
 | (a,b,c,d,e,f,g,h)=>(a,b,c,d,e,f,g,h,(i : Int))
theorem comp_eq (x : Arr 8) (b : Arr 64) : Lsha_Compress x b = some (comp x b):=by
 unfold Lsha_Compress;rw [sched_eq,bind_some'];refine runLoop_to (step:=Lsha_Compress_s1 (sched b) x) (fun i=>enc9 (rnds (sched b) (st0 x) i) i) 64 (x:=some (comp x b)) (fun i hi=>?_) ?_
 ·show _ = some (Sum.inl (enc9 (rnd (rnds (sched b) (st0 x) i) (shaK.at i) ((sched b).at i)) (i + 1)))
  obtain ⟨a,b',c,d,e,f,g,h⟩:=rnds (sched b) (st0 x) i;simp only [enc9,Lsha_Compress_s1];refine (if_pos (show (i : Int) < 64 by omega)).trans ?_;rw [rr_eq,bind_some',rr_eq,bind_some',rr_eq,bind_some',inA_bind hi,rr_eq,bind_some',rr_eq,bind_some',rr_eq,bind_some',wi_succ hi (by omega)];rfl
 ·unfold comp
  obtain ⟨a,b',c,d,e,f,g,h⟩:=rnds (sched b) (st0 x) 64;simp only [enc9,Lsha_Compress_s1];exact (if_neg (by decide)).trans rfl
theorem rcomp_eq (x : Arr 8) (b : Arr 64) : Lref03_Compress x b = some (comp x b):=by
 unfold Lref03_Compress;rw [rsched_eq,bind_some',consts,bind_some'];refine runLoop_to (step:=Lref03_Compress_s1 shaK (sched b) x) (fun i=>enc9 (rnds (sched b) (st0 x) i) i) 64 (x:=some (comp x b)) (fun i hi=>?_) ?_
 ·show _ = some (Sum.inl (enc9 (rnd (rnds (sched b) (st0 x) i) (shaK.at i) ((sched b).at i)) (i + 1)))
  obtain ⟨a,b',c,d,e,f,g,h⟩:=rnds (sched b) (st0 x) i;simp only [enc9,Lref03_Compress_s1];refine (if_pos (show (i : Int) < 64 by omega)).trans ?_;rw [rrr_eq,bind_some',rrr_eq,bind_some',rrr_eq,bind_some',inA_bind hi,rrr_eq,bind_some',rrr_eq,bind_some',rrr_eq,bind_some',wi_succ hi (by omega)];rfl
 ·unfold comp
  obtain ⟨a,b',c,d,e,f,g,h⟩:=rnds (sched b) (st0 x) 64;simp only [enc9,Lref03_Compress_s1];exact (if_neg (by decide)).trans rfl
end Go.Lc
end
section
/- SHA-256: padding and sums,the program's and the reference's. -/
namespace Go.Lc
open Go.RowKit
open Go.Av
set_option linter.unusedVariables false

def padN (n : Nat) : Nat:=(64 - (n + 9) % 64) % 64
def lenB (n : Nat) (j : Nat) : Int:=IntKind.u8.wrap ((IntKind.u64.wrap (8 * (n : Int))).fdiv (2 ^ (56 - 8 * j)))
def padS (n : Nat) : List Int:=(128 :: List.replicate (padN n) 0)++(List.range 8).map (lenB n)
theorem padS_len (n : Nat) : (padS n).length = 9 + padN n:=by simp [padS]; omega
theorem padN_lt (n : Nat) : padN n < 64:=Nat.mod_lt _ (by omega)
theorem tm {a b : Nat} : ((a : Int).tmod (b : Int)) = ((a % b : Nat) : Int):=rfl
theorem pad_p {n : Nat} (hn : n≤1000000000) : (IntKind.u64.wrap (64 - ((IntKind.u64.wrap ((n : Int) + 9)).tmod 64))).tmod 64 = (padN n : Int):=by
 have e1 : IntKind.u64.wrap ((n : Int) + 9) = ((n + 9 : Nat) : Int):=wu _ (by omega);have e2 : ((n + 9 : Nat) : Int).tmod 64 = (((n + 9) % 64 : Nat) : Int):=rfl;have h:=Nat.mod_lt (n + 9) (show 64 > 0 by omega);have e3 : IntKind.u64.wrap (64 - (((n + 9) % 64 : Nat) : Int)) = ((64 - (n + 9) % 64 : Nat) : Int):=by rw [wu _ (by omega)]; omega
 rw [e1,e2,e3];rfl
theorem sha_pad {n : Nat} (hn : n≤1000000000) : Lsha_Pad (n : Int) = some (padS n):=by
 have hp:=pad_p hn;have hl:=padN_lt n;unfold Lsha_Pad;rw [hp,wu (1 + (padN n : Int)) (by omega),wu (9 + (padN n : Int)) (by omega),chk_bind (by omega),chk_bind (by simp; omega)]
 have e0 : (List.replicate ((1 + (padN n : Int)).toNat) (0 : Int)).set 0 128 = 128 :: List.replicate (padN n) 0:=by
  rw [show (1 + (padN n : Int)).toNat = padN n + 1 by omega,List.replicate_succ];rfl
 rw [e0]
 have:=runLoop_to (step:=Lsha_Pad_s1 (n : Int)) (fun k=>((k : Int),(128 :: List.replicate (padN n) 0)++(List.range k).map (lenB n))) 8 (x:=some (padS n)) (fun k hk=>by
  simp only [Lsha_Pad_s1];rw [if_pos (by omega),wi (8 * (k : Int)) (by omega),wi (56 - 8 * (k : Int)) (by omega),chk_bind (by omega),chk_bind (by simp; omega),wi_succ hk (by omega)];have e : min (56 - 8 * (k : Int)).toNat 64 = 56 - 8 * k:=by omega
  rw [e,List.range_succ,List.map_append,← List.append_assoc];rfl) (by
  simp only [Lsha_Pad_s1];rw [if_neg (by omega)]
  rfl)
 simpa using this
theorem ref_pad1 {n : Nat} (hn : n≤1000000000) (b : List Int) (hb : b.length≤1000) : runLoop (Lref03_Pad_s2 (n : Int)) (7,b) = some (b++(List.range 8).map (lenB n)):=by
 have:=runLoop_to (step:=Lref03_Pad_s2 (n : Int)) (fun k=>(7 - (k : Int),b++(List.range k).map (lenB n))) 8 (x:=some (b++(List.range 8).map (lenB n))) (fun k hk=>by
  simp only [Lref03_Pad_s2];rw [if_pos (by omega),wi (8 * (7 - (k : Int))) (by omega),chk_bind (by omega),chk_bind (by simp; omega),wi (7 - (k : Int) - 1) (by omega)];have e : min (8 * (7 - (k : Int))).toNat 64 = 56 - 8 * k:=by omega
  rw [e,List.range_succ,List.map_append,← List.append_assoc,show 7 - (k : Int) - 1 = 7 - ((k + 1 : Nat) : Int) by omega];rfl) (by
  simp only [Lref03_Pad_s2];rw [if_neg (by omega)]
  rfl)
 simpa using this
theorem ref_pad {n : Nat} (hn : n≤1000000000) : Lref03_Pad (n : Int) = some (padS n):=by
 have hl:=padN_lt n;unfold Lref03_Pad
 have key : ∀ k,k≤padN n→(IntKind.u64.wrap ((IntKind.u64.wrap ((n : Int) + (IntKind.u64.wrap (((128 :: List.replicate k (0 : Int)).length : Nat) : Int)))) + 8)).tmod 64 = (((n + k + 9) % 64 : Nat) : Int):=by
  intro k hk;have e : (128 :: List.replicate k (0 : Int)).length = k + 1:=by simp
  rw [e,wu ((k + 1 : Nat) : Int) (by omega),wu ((n : Int) + ((k + 1 : Nat) : Int)) (by omega),wu _ (by omega),show ((n : Int) + ((k + 1 : Nat) : Int) + 8) = ((n + k + 9 : Nat) : Int) by omega];exact tm
 have:=runLoop_to (step:=Lref03_Pad_s1 (n : Int)) (fun k=>128 :: List.replicate k (0 : Int)) (padN n) (x:=some (padS n)) (fun k hk=>by
  simp only [Lref03_Pad_s1];rw [key k (by omega),if_pos,chk_bind (by simp; omega)]
  ·rw [List.cons_append,← List.replicate_succ']
  ·have : ¬ (n + k + 9) % 64 = 0:=by unfold padN at hk; omega
   omega) (by
  simp only [Lref03_Pad_s1];rw [key _ (Nat.le_refl _),if_neg]
  ·unfold Lref03_Pad_k1
   rw [ref_pad1 hn _ (by simp; omega)];rfl
  ·have : (n + padN n + 9) % 64 = 0:=by unfold padN; omega
   omega)
 simpa using this

/-! the blocks -/
def blk (y : List Int) (i : Nat) : Arr 64:=arOf 64 (y.drop (64 * i))
noncomputable def hsh (y : List Int) : Nat→Arr 8
 | 0=>shaInitial
 | i + 1=>comp (hsh y i) (blk y i)
theorem over_arOf {l : List Int} (h : 64≤l.length) : (zA 64).over l = arOf 64 l:=by
 unfold Arr.over arOf;rw [dif_pos h];have hz:=(zA 64).hl;have e : (zA 64).l.drop (min l.length 64) = []:=List.drop_eq_nil_of_le (by omega);simp only [e,List.append_nil]
def byt (h : Arr 8) (k : Nat) : Int:=IntKind.u8.wrap ((h.at (k / 4)).fdiv (2 ^ (24 - (k % 4) * 8)))
def putN (h : Arr 8) : Nat→Arr 32
 | 0=>zA 32
 | k + 1=>(putN h k).put k (byt h k)
theorem sha_out (h : Arr 8) : Lsha_Sum_k1 h = some (putN h 32):=by
 unfold Lsha_Sum_k1;refine runLoop_to (step:=Lsha_Sum_s2 h) (fun k=>((k : Int),putN h k)) 32 (x:=some (putN h 32)) (fun k hk=>?_) ?_
 ·simp only [Lsha_Sum_s2]
  have e4 : (k : Int).tmod 4 = ((k % 4 : Nat) : Int):=tm;have d4 : (k : Int).tdiv 4 = ((k / 4 : Nat) : Int):=rfl;rw [if_pos (by omega),e4,d4,wi (((k / 4 : Nat) : Int)) (by omega),wi (((k % 4 : Nat) : Int) * 8) (by omega),wi (24 - ((k % 4 : Nat) : Int) * 8) (by omega),inA_bind (by omega),chk_bind (by omega),inA_bind hk,wi_succ hk (by omega)];have e : min (24 - ((k % 4 : Nat) : Int) * 8).toNat 32 = 24 - (k % 4) * 8:=by omega
  rw [e];rfl
 ·simp only [Lsha_Sum_s2]
  rw [if_neg (by omega)];rfl
theorem ref_out (h : Arr 8) : Lref03_Sum_k1 h = some (putN h 32):=by
 unfold Lref03_Sum_k1;refine runLoop_to (step:=Lref03_Sum_s2 h) (fun i=>((i : Int),putN h (4 * i))) 8 (x:=some (putN h 32)) (fun i hi=>?_) ?_
 ·simp only [Lref03_Sum_s2]
  rw [if_pos (by omega),wi (4 * (i : Int)) (by omega),wi (4 * (i : Int) + 1) (by omega),wi (4 * (i : Int) + 2) (by omega),wi (4 * (i : Int) + 3) (by omega),inA_bind hi,inA_at (i:=4 * i) (by omega) (by omega),inA_at (i:=4 * i + 1) (by omega) (by omega),inA_at (i:=4 * i + 2) (by omega) (by omega),inA_at (i:=4 * i + 3) (by omega) (by omega),wi_succ hi (by omega)]
  have b0 : byt h (4 * i) = IntKind.u8.wrap ((h.at i).fdiv 16777216):=by
   unfold byt;rw [show 4 * i / 4 = i by omega,show 4 * i % 4 = 0 by omega];rfl
  have b1 : byt h (4 * i + 1) = IntKind.u8.wrap ((h.at i).fdiv 65536):=by
   unfold byt;rw [show (4 * i + 1) / 4 = i by omega,show (4 * i + 1) % 4 = 1 by omega];rfl
  have b2 : byt h (4 * i + 2) = IntKind.u8.wrap ((h.at i).fdiv 256):=by
   unfold byt;rw [show (4 * i + 2) / 4 = i by omega,show (4 * i + 2) % 4 = 2 by omega];rfl
  have b3 : byt h (4 * i + 3) = IntKind.u8.wrap (h.at i):=by
   unfold byt;rw [show (4 * i + 3) / 4 = i by omega,show (4 * i + 3) % 4 = 3 by omega];show IntKind.u8.wrap ((h.at i).fdiv 1) = _
   rw [Int.fdiv_one]
  rw [show 4 * (i + 1) = 4 * i + 3 + 1 by omega];simp only [putN];rw [b0,b1,b2,b3]
 ·simp only [Lref03_Sum_s2]
  rw [if_neg (by omega)];rfl
noncomputable def shaS (a : List Int) : Arr 32:=putN (hsh (a++padS a.length) ((a.length + (padS a.length).length) / 64)) 32
theorem total_len (n : Nat) : (n + (padS n).length) % 64 = 0:=by
 rw [padS_len];unfold padN;omega
theorem row_two {a b : List Int} (ha : a.length≤1000000000) (hb : b.length≤1000000000) : Lsha_row [a,b] = some (a++b):=by
 unfold Lsha_row
 rw [runLoop_step (s' := (1,a)) (by
  simp only [Lsha_row_s1];rw [if_pos (by simp),show (0 : Int) = ((0 : Nat) : Int) from rfl,idx_bind (by simp),chk_bind (by simp; omega)];simp [wi]),runLoop_step (s' := (2,a++b)) (by
  simp only [Lsha_row_s1];rw [if_pos (by simp),show (1 : Int) = ((1 : Nat) : Int) from rfl,idx_bind (by simp),chk_bind (by simp; omega)]
  simp [wi])]
 refine runLoop_exit ?_;simp only [Lsha_row_s1];rw [if_neg (by simp)];rfl
theorem sha_sum {a : List Int} (h : a.length≤100000000) : Lsha_Sum a = some (shaS a):=by
 have hp:=padS_len a.length;have hl:=padN_lt a.length;have ht:=total_len a.length;unfold Lsha_Sum;rw [wu _ (by omega),sha_pad (by omega),bind_some',row_two (by omega) (by omega),bind_some'];have hlen : (a++padS a.length).length = a.length + (padS a.length).length:=by simp
 have hd : ((a++padS a.length).length : Int).tdiv 64 = (((a.length + (padS a.length).length) / 64 : Nat) : Int):=by rw [hlen]; rfl
 refine runLoop_to (step:=Lsha_Sum_s1 (a++padS a.length)) (fun i=>((i : Int),hsh (a++padS a.length) i)) ((a.length + (padS a.length).length) / 64) (x:=some (shaS a)) (fun i hi=>?_) ?_
 ·simp only [Lsha_Sum_s1]
  rw [hd,wi (((a.length + (padS a.length).length) / 64 : Nat) : Int) (by omega),if_pos (by omega),wi (64 * (i : Int)) (by omega),chk_bind (by omega),chk_bind (by omega),show (64 * (i : Int)).toNat = 64 * i by omega,comp_eq,bind_some',wi_succ hi (by omega)];rfl
 ·simp only [Lsha_Sum_s1]
  rw [hd,wi (((a.length + (padS a.length).length) / 64 : Nat) : Int) (by omega),if_neg (by omega),sha_out];rfl
theorem ref_sha {a : List Int} (h : a.length≤100000000) : Lref03_Sum a = some (shaS a):=by
 have hp:=padS_len a.length;have hl:=padN_lt a.length;have ht:=total_len a.length;unfold Lref03_Sum;rw [chk_bind (by omega),wu _ (by omega),ref_pad (by omega),bind_some',chk_bind (by omega),inits,bind_some'];have hlen : (a++padS a.length).length = a.length + (padS a.length).length:=by simp
 refine runLoop_to (step:=Lref03_Sum_s1 a (padS a.length)) (fun i=>((64 * i : Int),hsh (a++padS a.length) i)) ((a.length + (padS a.length).length) / 64) (x:=some (shaS a)) (fun i hi=>?_) ?_
 ·simp only [Lref03_Sum_s1]
  rw [wi (64 * (i : Int) + 64) (by omega),if_pos (by omega),chk_bind (by omega),show (64 * (i : Int)).toNat = 64 * i by omega,over_arOf (by rw [List.length_drop]; omega),rcomp_eq,bind_some',show 64 * (i : Int) + 64 = 64 * ((i + 1 : Nat) : Int) by omega];rfl
 ·simp only [Lref03_Sum_s1]
  rw [wi _ (by omega),if_neg (by omega),ref_out];rfl
theorem dbl_eq {a : List Int} (h : a.length≤100000000) : Lsha_Double a = some (shaS (shaS a).l):=by
 have:=(shaS a).hl;unfold Lsha_Double;rw [sha_sum h,bind_some',sha_sum (by omega)];rfl
theorem rdbl_eq {a : List Int} (h : a.length≤100000000) : Lref03_Double a = some (shaS (shaS a).l):=by
 have:=(shaS a).hl;unfold Lref03_Double;rw [ref_sha h,bind_some',ref_sha (by omega)];rfl
end Go.Lc
end
section
/- Replacement: acceptance,the program's and the reference's. -/
namespace Go.Lc
open Go.RowKit
open Go.Av
set_option linter.unusedVariables false

theorem rate_eq (a b : Int) : Lfees_Rate a b = Lref33_Rate a b:=by
 unfold Lfees_Rate Lref33_Rate Lref33_in;by_cases h1 : a < 0∨2100000000000000 < a
 ·have h2 : ((a < 0∨2100000000000000 < a)∨b < 1)∨80000 < b:=.inl (.inl h1)
  rw [if_pos h2,if_pos h1,bind_some',if_pos (.inl h1)]
 ·rw [if_neg h1]
  by_cases h3 : 1≤b <;> by_cases h4 : b≤80000
  ·have h2 : ¬ (((a < 0∨2100000000000000 < a)∨b < 1)∨80000 < b):=by omega
   rw [if_neg h2];simp [h1,h3,h4]
  ·have h2 : ((a < 0∨2100000000000000 < a)∨b < 1)∨80000 < b:=by omega
   rw [if_pos h2];simp [h3,h4]
  ·have h2 : ((a < 0∨2100000000000000 < a)∨b < 1)∨80000 < b:=by omega
   rw [if_pos h2];simp [h3,h4]
  ·have h2 : ((a < 0∨2100000000000000 < a)∨b < 1)∨80000 < b:=by omega
   rw [if_pos h2];simp [h3,h4]
theorem rate_tot (a b : Int) : ∃ r,Lref33_Rate a b = some r:=by
 rw [← rate_eq];unfold Lfees_Rate;by_cases h : ((a < 0∨2100000000000000 < a)∨b < 1)∨80000 < b
 ·rw [if_pos h]
  exact ⟨_,rfl⟩
 ·rw [if_neg h,chk_bind (by omega)]
  exact ⟨_,rfl⟩
noncomputable def rateS (a b : Int) : Int:=(Lref33_Rate a b).getD 0
theorem rrate (a b : Int) : Lref33_Rate a b = some (rateS a b):=by
 obtain ⟨r,hr⟩:=rate_tot a b;rw [rateS,hr];rfl
theorem prate (a b : Int) : Lfees_Rate a b = some (rateS a b):=by rw [rate_eq,rrate]
noncomputable def idS (t : Tapi_Tx) : Arr 32:=if fitsS t = true then shaS (shaS (encS t false)).l else zA 32
theorem fits_small {t : Tapi_Tx} (h : fitsS t = true) : (encS t false).length≤100000000:=by
 have h1:=lim_M (fits_lim h);have h2:=enc_len (t:=t) (w:=false);omega
theorem id_eq (t : Tapi_Tx) : Ltx_ID t = some (idS t):=by
 unfold Ltx_ID Ltx_digest Ltx_Encode idS;rw [tx_fits,bind_some'];by_cases h : fitsS t = true
 ·have hn : ¬ ¬ fitsS t = true:=by simp [h]
  rw [if_neg hn,if_pos h,tx_encode (fits_enc h),bind_some',bind_some',if_neg (by simp),dbl_eq (fits_small h)];rfl
 ·rw [if_pos h,if_neg h]
  simp
theorem rid_eq (t : Tapi_Tx) : Lref09_ID t = some (idS t):=by
 unfold Lref09_ID idS;rw [rtx_fits,bind_some'];by_cases h : fitsS t = true
 ·have hn : ¬ ¬ fitsS t = true:=by simp [h]
  rw [if_neg hn,if_pos h,rtx_encode (fits_enc h),bind_some',rdbl_eq (fits_small h)];rfl
 ·rw [if_pos h,if_neg h]
theorem cf_a2 {a1 : Tapi_Tx} {l : List Tapi_Entry} (b : Tapi_Entry→Bool) (hl : l.length≤1000000000) (hb : ∀ x∈l,Lreplace_Accept_2__r x a1 = some (b x)) : Lslices_ContainsFunc_of__api_Entry_api_Entry__replace_Accept_2 l a1 = some (l.any b):=by
 unfold Lslices_ContainsFunc_of__api_Entry_api_Entry__replace_Accept_2 Lslices_IndexFunc_of__api_Entry_api_Entry__replace_Accept_2;refine find_loop l b (by omega) (fun i hi=>?_) ?_
 ·simp only [Lslices_IndexFunc_of__api_Entry_api_Entry__replace_Accept_2_s1]
  rw [if_pos (by omega),idx_bind hi,hb _ (List.getElem_mem hi),bind_some']
 ·simp only [Lslices_IndexFunc_of__api_Entry_api_Entry__replace_Accept_2_s1]
  rw [if_neg (by omega)];rfl
theorem cf_a21 {a1 : (Arr 32)} {l : List Tapi_Input} (b : Tapi_Input→Bool) (hl : l.length≤1000000000) (hb : ∀ x∈l,Lreplace_Accept_2_1__r x a1 = some (b x)) : Lslices_ContainsFunc_of__api_Input_api_Input__replace_Accept_2_1 l a1 = some (l.any b):=by
 unfold Lslices_ContainsFunc_of__api_Input_api_Input__replace_Accept_2_1 Lslices_IndexFunc_of__api_Input_api_Input__replace_Accept_2_1;refine find_loop l b (by omega) (fun i hi=>?_) ?_
 ·simp only [Lslices_IndexFunc_of__api_Input_api_Input__replace_Accept_2_1_s1]
  rw [if_pos (by omega),idx_bind hi,hb _ (List.getElem_mem hi),bind_some']
 ·simp only [Lslices_IndexFunc_of__api_Input_api_Input__replace_Accept_2_1_s1]
  rw [if_neg (by omega)];rfl
theorem cf_en {a1 : Int} {l : List Tapi_Entry} (b : Tapi_Entry→Bool) (hl : l.length≤1000000000) (hb : ∀ x∈l,Lreplace_enough_1__r x a1 = some (b x)) : Lslices_ContainsFunc_of__api_Entry_api_Entry__replace_enough_1 l a1 = some (l.any b):=by
 unfold Lslices_ContainsFunc_of__api_Entry_api_Entry__replace_enough_1 Lslices_IndexFunc_of__api_Entry_api_Entry__replace_enough_1;refine find_loop l b (by omega) (fun i hi=>?_) ?_
 ·simp only [Lslices_IndexFunc_of__api_Entry_api_Entry__replace_enough_1_s1]
  rw [if_pos (by omega),idx_bind hi,hb _ (List.getElem_mem hi),bind_some']
 ·simp only [Lslices_IndexFunc_of__api_Entry_api_Entry__replace_enough_1_s1]
  rw [if_neg (by omega)];rfl

def spS (t : Tapi_Tx) (h : Arr 32) : Bool:=t.2.1.any fun x=>decide (x.1.1 = h)
theorem rsp_eq {t s : Tapi_Tx} (ht : t.2.1.length≤1000000000) : Lref36_spends t s = some (spS t (idS s)):=by
 unfold Lref36_spends
 rw [rid_eq,bind_some',scan_dec (s:=0) (step:=Lref36_spends_s1 t (idS s)) (fun i=>(i : Int)) t.2.1 (fun x=>x.1.1 = idS s) (some true) (some false) (fun i hi hb=>by
  simp only [Lref36_spends_s1];rw [if_pos (by omega),idx_bind hi,if_neg hb,wi_succ hi (by omega)]) (fun i hi hb=>by
  simp only [Lref36_spends_s1];rw [if_pos (by omega),idx_bind hi,if_pos hb];rfl) (by
  simp only [Lref36_spends_s1];rw [if_neg (by omega)]
  rfl) rfl]
 unfold spS;by_cases hx : ∃ x∈t.2.1,x.1.1 = idS s
 ·rw [if_pos hx]
  have : (t.2.1.any fun x=>decide (x.1.1 = idS s)) = true:=by simpa [List.any_eq_true] using hx
  rw [this]
 ·rw [if_neg hx]
  have : (t.2.1.any fun x=>decide (x.1.1 = idS s)) = false:=by
   rw [Bool.eq_false_iff];intro hb;exact hx (by simpa [List.any_eq_true] using hb)
  rw [this]
end Go.Lc
end
section
/- Replacement: acceptance,the program's and the reference's are the same. -/
namespace Go.Lc
open Go.RowKit
open Go.Av
set_option linter.unusedVariables false

def feesS (l : List Tapi_Entry) : List Int:=l.map Prod.snd
section
variable {l : List Tapi_Entry} {t : Tapi_Tx} {f : Int}
theorem fv_get {i : Nat} (h1 : i < l.length) (h2 : i < (feesS l).length) : (feesS l)[i] = (l[i]).2:=by simp [feesS]
theorem fee_range {a v : Int} (h : Lbuild_Fee a 100 = some v) : 0≤v∧v≤100000:=by
 unfold Lbuild_Fee at h;split at h
 ·injection h with h
  omega
 ·rename_i hc
  injection h with h;rw [wi (100 * a) (by omega),wi (100 * a + 999) (by omega)] at h;have e : (100 * a + 999).tdiv 1000 = (100 * a + 999) / 1000:=Int.tdiv_eq_ediv_of_nonneg (by omega);rw [e,wi _ (by omega)] at h;omega
/-- what is left of a fee -/
def refL (v0 : Int) (l : List Tapi_Entry) : Nat→Int
 | 0=>v0
 | i + 1=>if 0≤refL v0 l i then refL v0 l i - ((l[i]?).map Prod.snd).getD 0 else refL v0 l i
theorem refL_sum (hp : ∀ v∈feesS l,0≤v) (v0 : Int) : ∀ i,i≤l.length→(0≤refL v0 l i→refL v0 l i = v0 - sumI ((feesS l).take i))∧(refL v0 l i < 0→v0 - sumI ((feesS l).take i) < 0)
 | 0,_=>by simp [refL,sumI]
 | i + 1,hi=>by
  have ih:=refL_sum hp v0 i (by omega);have hlen : (feesS l).length = l.length:=by simp [feesS]
  have hs:=sumI_take (l:=feesS l) (i:=i) (by omega);have h0:=hp _ (List.getElem_mem (l:=feesS l) (n:=i) (by omega));have hg:=fv_get (l:=l) (i:=i) (by omega) (by omega);have hq : ((l[i]?).map Prod.snd).getD 0 = (l[i]'(by omega)).2:=by rw [List.getElem?_eq_getElem (by omega)]; rfl
  simp only [refL];rw [hq,hs];by_cases h : 0≤refL v0 l i
  ·rw [if_pos h]
   have:=ih.1 h;omega
  ·rw [if_neg h]
   have:=ih.2 (by omega);omega
theorem refL_bnd (hp : ∀ v∈feesS l,0≤v∧v≤2100000000000000) {v0 : Int} (h1 : -100000≤v0) (h2 : v0≤2100000000000000) : ∀ i,i≤l.length→-2100000000100000≤refL v0 l i∧refL v0 l i≤2100000000000000
 | 0,_=>by simp only [refL]; omega
 | i + 1,hi=>by
  have ih:=refL_bnd hp h1 h2 i (by omega);have hlen : (feesS l).length = l.length:=by simp [feesS]
  have h0:=hp _ (List.getElem_mem (l:=feesS l) (n:=i) (by omega));have hg:=fv_get (l:=l) (i:=i) (by omega) (by omega);have hq : ((l[i]?).map Prod.snd).getD 0 = (l[i]'(by omega)).2:=by rw [List.getElem?_eq_getElem (by omega)]; rfl
  simp only [refL];rw [hq];split <;> omega
noncomputable def anyR (l : List Tapi_Entry) (r : Int) : Bool:=l.any fun e=>decide (r≤rateS e.2 (weightS e.1))
theorem en_eq (hl : l.length≤1000) (hp : ∀ v∈feesS l,0≤v∧v≤2100000000000000) (hf : 0≤f∧f≤2100000000000000) {v : Int} (hv : Lbuild_Fee (weightS t) 100 = some v) : Lreplace_enough l t f = some (decide (0≤(f - v) - sumI (feesS l)) && !(anyR l (rateS f (weightS t)))):=by
 classical
 have hv' := fee_range hv;have hlen : (feesS l).length = l.length:=by simp [feesS]
 have hp0 : ∀ v∈feesS l,0≤v:=fun v h=>(hp v h).1
 unfold Lreplace_enough;rw [tx_weight,bind_some',hv,bind_some',wi (f - v) (by omega)]
 have hbnd : ∀ i,i≤l.length→0≤sumI ((feesS l).take i)∧sumI ((feesS l).take i)≤1000 * 2100000000000000:=by
  intro i hi;refine ⟨sumI_pos fun v hv=>hp0 v (List.mem_of_mem_take hv),?_⟩;have:=sumI_le (l:=(feesS l).take i) (c:=2100000000000000) (fun v hv=>(hp v (List.mem_of_mem_take hv)).2);rw [List.length_take] at this;omega
 rw [scan_pre (s:=(f - v,0)) (step:=Lreplace_enough_s1 l f (weightS t)) (fun i=>(f - v - sumI ((feesS l).take i),(i : Int))) l.length (fun i=>f - v - sumI ((feesS l).take (i + 1)) < 0) (some false) (if f - v - sumI (feesS l) < 0 then some false else some (!(anyR l (rateS f (weightS t))))) ?_ ?_ ?_ (by simp [sumI])]
 ·by_cases hx : ∃ i,i < l.length∧f - v - sumI ((feesS l).take (i + 1)) < 0
  ·rw [if_pos hx]
   obtain ⟨i,hi,hb⟩:=hx;have:=sumI_mono hp0 (i + 1);have h2 : ¬ 0≤(f - v) - sumI (feesS l):=by omega
   rw [decide_eq_false h2];rfl
  ·rw [if_neg hx]
   by_cases h2 : f - v - sumI (feesS l) < 0
   ·rw [if_pos h2]
    have h3 : ¬ 0≤(f - v) - sumI (feesS l):=by omega
    rw [decide_eq_false h3];rfl
   ·rw [if_neg h2]
    have h3 : 0≤(f - v) - sumI (feesS l):=by omega
    rw [decide_eq_true h3];rfl
 ·intro i hi _ hb
  have hb1:=hbnd i (by omega);have hs:=sumI_take (l:=feesS l) (i:=i) (by omega);have h0:=hp _ (List.getElem_mem (l:=feesS l) (n:=i) (by omega));have hg:=fv_get (l:=l) hi (by omega);rw [hs] at hb ⊢;simp only [Lreplace_enough_s1];rw [if_pos (by omega),idx_bind hi,if_neg (by omega),wi _ (by omega),wi_succ hi (by omega),hg,show f - v - sumI ((feesS l).take i) - (l[i]).2 = f - v - (sumI ((feesS l).take i) + (l[i]).2) by omega]
 ·intro i hi _ hb
  have hs:=sumI_take (l:=feesS l) (i:=i) (by omega);have hg:=fv_get (l:=l) hi (by omega);rw [hs] at hb;simp only [Lreplace_enough_s1];rw [if_pos (by omega),idx_bind hi,if_pos (by omega)];rfl
 ·intro _
  simp only [Lreplace_enough_s1];rw [if_neg (by omega)];have e : (feesS l).take l.length = feesS l:=List.take_of_length_le (by omega);unfold Lreplace_enough_k1;rw [e,prate,bind_some',cf_en (fun e=>decide (rateS f (weightS t)≤rateS e.2 (weightS e.1))) (by omega) (fun x _=>?_)]
  ·rfl
  ·unfold Lreplace_enough_1__r Lreplace_rateOf
   rw [tx_weight,bind_some',prate];rfl
theorem rk4_eq (hl : l.length≤1000) (hp : ∀ v∈feesS l,0≤v∧v≤2100000000000000) (hf : 0≤f∧f≤2100000000000000) {v : Int} (hv : Lbuild_Fee (weightS t) 100 = some v) : Lref36_Accept_k4 t l f = some (if (decide (0≤(f - v) - sumI (feesS l)) && !(anyR l (rateS f (weightS t)))) = true then 0 else 361):=by
 classical
 have hv' := fee_range hv;have hlen : (feesS l).length = l.length:=by simp [feesS]
 have hp0 : ∀ v∈feesS l,0≤v:=fun v h=>(hp v h).1
 unfold Lref36_Accept_k4;rw [rtx_weight,bind_some',← fee_eq,hv,bind_some',wi (f - v) (by omega)]
 rw [scan_dec (s:=(f - v,0)) (step:=Lref36_Accept_s5 l t f) (fun i=>(refL (f - v) l i,(i : Int))) l (fun e=>rateS f (weightS t)≤rateS e.2 (weightS e.1)) (some 361) (if refL (f - v) l l.length < 0 then some 361 else some 0) (fun i hi hb=>by
  have hbn:=refL_bnd hp (v0:=f - v) (by omega) (by omega) i (by omega);have h0:=hp _ (List.getElem_mem (l:=feesS l) (n:=i) (by omega));have hg:=fv_get (l:=l) hi (by omega);have hq : ((l[i]?).map Prod.snd).getD 0 = (l[i]).2:=by rw [List.getElem?_eq_getElem hi]; rfl
  simp only [Lref36_Accept_s5];rw [if_pos (by omega),rtx_weight,bind_some',rrate,bind_some',idx_bind hi,rtx_weight,bind_some',rrate,bind_some',if_neg hb];simp only [refL,Lref36_Accept_k6];rw [hq,wi_succ hi (by omega)];by_cases h : 0≤refL (f - v) l i
  ·rw [if_pos h,if_pos h,wi _ (by omega)]
  ·rw [if_neg h,if_neg h]) (fun i hi hb=>by
  simp only [Lref36_Accept_s5];rw [if_pos (by omega),rtx_weight,bind_some',rrate,bind_some',idx_bind hi,rtx_weight,bind_some',rrate,bind_some',if_pos hb];rfl) (by
  simp only [Lref36_Accept_s5];rw [if_neg (by omega)]
  rfl) rfl]
 have hs:=refL_sum hp0 (f - v) l.length (Nat.le_refl _);have e : (feesS l).take l.length = feesS l:=List.take_of_length_le (by omega);rw [e] at hs;by_cases hx : ∃ e∈l,rateS f (weightS t)≤rateS e.2 (weightS e.1)
 ·rw [if_pos hx]
  have : anyR l (rateS f (weightS t)) = true:=by unfold anyR; simpa [List.any_eq_true] using hx
  rw [this];simp
 ·rw [if_neg hx]
  have : anyR l (rateS f (weightS t)) = false:=by
   rw [Bool.eq_false_iff];intro hb;unfold anyR at hb;exact hx (by simpa [List.any_eq_true] using hb)
  rw [this];by_cases h : refL (f - v) l l.length < 0
  ·have h3 : ¬ 0≤(f - v) - sumI (feesS l):=by have:=hs.2 h; omega
   rw [if_pos h,decide_eq_false h3];rfl
  ·have h3 : 0≤(f - v) - sumI (feesS l):=by have:=hs.1 (by omega); omega
   rw [if_neg h,decide_eq_true h3];rfl
end
end Go.Lc
end
section
/- Replacement: one answer on both sides. -/
namespace Go.Lc
open Go.RowKit
open Go.Av
set_option linter.unusedVariables false

def monB (v : Int) : Bool:=decide (0≤v) && decide (v≤2100000000000000)
theorem ref_scan {l : List Tapi_Entry} {step : Int→Option (Int ⊕ Int)} (b : Tapi_Entry→Bool) (c : Int) {x : Option Int} (hl : l.length≤1000) (h : ∀ i (hi : i < l.length),step (i : Int) = if b l[i] = true then some (.inr c) else some (.inl (IntKind.i64.wrap ((i : Int) + 1)))) (he : step (l.length : Int) = x.map .inr) : runLoop step 0 = if l.any b = true then some c else x:=by
 classical
 rw [scan_dec (s:=0) (step:=step) (fun i=>(i : Int)) l (fun e=>b e = true) (some c) x (fun i hi hb=>by
  rw [h i hi,if_neg hb,wi_succ hi (by omega)]) (fun i hi hb=>by
  rw [h i hi,if_pos hb]
  rfl) he rfl]
 by_cases hx : ∃ e∈l,b e = true
 ·rw [if_pos hx,if_pos (List.any_eq_true.2 hx)]
 ·rw [if_neg hx,if_neg (fun h=>hx (List.any_eq_true.1 h))]
/-- what an accepted replacement pays -/
def AccOk (l : List Tapi_Entry) (t : Tapi_Tx) (f : Int) : Prop:=checkS t = 0∧(∀ v∈feesS l,0≤v∧v≤2100000000000000)∧(0≤f∧f≤2100000000000000)∧∃ v,Lbuild_Fee (weightS t) 100 = some v∧0≤(f - v) - sumI (feesS l)
theorem accept_full {l : List Tapi_Entry} {t : Tapi_Tx} {f : Int} (hl : l.length≤1000) (hi : ∀ e∈l,e.1.2.1.length≤1000) : ∃ c,Lreplace_Accept l t f = some c∧Lref36_Accept l t f = some c∧(c = 0→AccOk l t f):=by
 classical
 unfold Lreplace_Accept Lref36_Accept;rw [tx_check,rtx_check,bind_some',bind_some'];by_cases hc : checkS t = 0
 ·have hnc : ¬ ¬ checkS t = 0:=by simp [hc]
  obtain ⟨h64,h65⟩:=check0 hc;rw [if_neg hnc,if_neg hnc,cb_eq,rcb_eq,bind_some',bind_some'];by_cases hb : cbS t = true
  ·rw [if_pos hb,if_pos hb]
   exact ⟨_,rfl,rfl,fun h=>by omega⟩
  ·rw [if_neg hb,if_neg hb]
   have m1 : Lreplace_money f = some (monB f):=rfl;have m2 : Lref36_money f = some (monB f):=rfl;rw [m1,m2,bind_some',bind_some'];by_cases hm : monB f = true
   ·have hnm : ¬ ¬ monB f = true:=by simp [hm]
    rw [if_neg hnm,if_neg hnm]
    have a3 : Lreplace_Accept_1__replace_Accept_3_p l = some (l.any fun e=>!(monB e.2)):=by
     unfold Lreplace_Accept_1__replace_Accept_3_p;rw [cf_a3 (fun e=>!(monB e.2)) (by omega) (fun x _=>rfl)];rfl
    have a4 : Lreplace_Accept_1__replace_Accept_4_p t l = some (l.any fun e=>!(conS e.1 t)):=by
     unfold Lreplace_Accept_1__replace_Accept_4_p
     rw [cf_a4 (fun e=>!(conS e.1 t)) (by omega) (fun x hx=>by
      unfold Lreplace_Accept_4__r;rw [con_eq (by have:=hi x hx; omega) (by omega)]
      rfl)]
     rfl
    have a5 : Lreplace_Accept_1__replace_Accept_5_p l = some (l.any fun e=>!(sigS e.1)):=by
     unfold Lreplace_Accept_1__replace_Accept_5_p
     rw [cf_a5 (fun e=>!(sigS e.1)) (by omega) (fun x hx=>by
      unfold Lreplace_Accept_5;rw [sig_eq (by have:=hi x hx; omega)]
      rfl)]
     rfl
    have a2 : Lreplace_Accept_1__replace_Accept_2_p t l = some (l.any fun e=>spS t (idS e.1)):=by
     unfold Lreplace_Accept_1__replace_Accept_2_p
     rw [cf_a2 (fun e=>spS t (idS e.1)) (by omega) (fun x hx=>by
      unfold Lreplace_Accept_2__r;rw [id_eq,bind_some',cf_a21 (fun y=>decide (y.1.1 = idS x.1)) (by omega) (fun y _=>rfl)]
      rfl)]
     rfl
    have r4 : Lref36_Accept_k3 l t f = if (l.any fun e=>spS t (idS e.1)) = true then some 362 else Lref36_Accept_k4 t l f:=by
     unfold Lref36_Accept_k3;refine ref_scan (fun e=>spS t (idS e.1)) 362 hl (fun i h=>?_) ?_
     ·simp only [Lref36_Accept_s4]
      rw [if_pos (by omega),idx_bind h,rsp_eq (by omega),bind_some']
     ·simp only [Lref36_Accept_s4]
      rw [if_neg (by omega)]
    have r3 : Lref36_Accept_k2 l t f = if (l.any fun e=>!(sigS e.1)) = true then some 360 else Lref36_Accept_k3 l t f:=by
     unfold Lref36_Accept_k2;refine ref_scan (fun e=>!(sigS e.1)) 360 hl (fun i h=>?_) ?_
     ·simp only [Lref36_Accept_s3]
      rw [if_pos (by omega),idx_bind h,rsig_eq (by have:=hi _ (List.getElem_mem h); omega),bind_some'];simp
     ·simp only [Lref36_Accept_s3]
      rw [if_neg (by omega)]
    have r2 : Lref36_Accept_k1 l t f = if (l.any fun e=>!(conS e.1 t)) = true then some 350 else Lref36_Accept_k2 l t f:=by
     unfold Lref36_Accept_k1;refine ref_scan (fun e=>!(conS e.1 t)) 350 hl (fun i h=>?_) ?_
     ·simp only [Lref36_Accept_s2]
      rw [if_pos (by omega),idx_bind h,rcon_eq (by have:=hi _ (List.getElem_mem h); omega) (by omega),bind_some'];simp
     ·simp only [Lref36_Accept_s2]
      rw [if_neg (by omega)]
    have r1 : runLoop (Lref36_Accept_s1 l t f) 0 = if (l.any fun e=>!(monB e.2)) = true then some 90 else Lref36_Accept_k1 l t f:=by
     refine ref_scan (fun e=>!(monB e.2)) 90 hl (fun i h=>?_) ?_
     ·have m3 : Lref36_money (l[i]).2 = some (monB (l[i]).2):=rfl
      simp only [Lref36_Accept_s1];rw [if_pos (by omega),idx_bind h,m3,bind_some'];simp
     ·simp only [Lref36_Accept_s1]
      rw [if_neg (by omega)]
    rw [r1,a3];simp only [bind_some'];by_cases h3 : (l.any fun e=>!(monB e.2)) = true
    ·rw [if_pos h3,if_pos (.inr h3)]
     exact ⟨_,rfl,rfl,fun h=>by omega⟩
    ·have hn3 : ¬ (¬ monB f = true∨(l.any fun e=>!(monB e.2)) = true):=by
      rintro (h | h)
      ·exact h hm
      ·exact h3 h
     rw [if_neg h3,if_neg hn3,a4,bind_some',r2];by_cases h4 : (l.any fun e=>!(conS e.1 t)) = true
     ·rw [if_pos h4,if_pos h4]
      exact ⟨_,rfl,rfl,fun h=>by omega⟩
     ·rw [if_neg h4,if_neg h4,a5,bind_some',r3]
      by_cases h5 : (l.any fun e=>!(sigS e.1)) = true
      ·rw [if_pos h5,if_pos h5]
       exact ⟨_,rfl,rfl,fun h=>by omega⟩
      ·rw [if_neg h5,if_neg h5,a2,bind_some',r4]
       by_cases h2 : (l.any fun e=>spS t (idS e.1)) = true
       ·rw [if_pos h2,if_pos h2]
        exact ⟨_,rfl,rfl,fun h=>by omega⟩
       ·rw [if_neg h2,if_neg h2]
        have hp : ∀ v∈feesS l,0≤v∧v≤2100000000000000:=by
         intro v hv;obtain ⟨e,he,rfl⟩:=List.mem_map.1 hv;have : ¬ (!(monB e.2)) = true:=fun h=>h3 (List.any_eq_true.2 ⟨e,he,h⟩)
         simpa [monB] using this
        have hf : 0≤f∧f≤2100000000000000:=by simpa [monB] using hm
        obtain ⟨v,hv⟩:=fee_tot (weightS t) 100;rw [← fee_eq] at hv;rw [en_eq hl hp hf hv,rk4_eq hl hp hf hv,bind_some'];cases hz : (decide (0≤(f - v) - sumI (feesS l)) && !(anyR l (rateS f (weightS t))))
        ·exact ⟨_,rfl,rfl,fun h=>by simp at h⟩
        ·exact ⟨_,rfl,rfl,fun _=>⟨hc,hp,hf,v,hv,of_decide_eq_true (Bool.and_eq_true_iff.1 hz).1⟩⟩
   ·rw [if_pos hm,if_pos hm]
    simp only [bind_some'];rw [if_pos (.inl hm)];exact ⟨_,rfl,rfl,fun h=>by omega⟩
 ·rw [if_pos hc,if_pos hc]
  exact ⟨_,rfl,rfl,fun h=>(hc h).elim⟩
end Go.Lc
end
section
/- Pools and heirs are always something; law 36,acceptance. -/
namespace Go.Lc
open Go.RowKit
open Go.Av
set_option linter.unusedVariables false

abbrev PoolR:=(List Tapi_Entry)×Tlightclientmill_Deck
abbrev PoolSt:=Int×Tlightclientmill_Deck×(List Tapi_Entry)
def I2 (len : Nat) (n : Nat) (s : Bool×Int) : Prop:=0≤s.2∧s.2 + (n : Int) = len
theorem tot_some_or {α β : Type} {c : Prop} [Decidable c] {a : α} {x : Option α} {f : α→Option β} {Q : β→Prop} (h : ∀ a,Tot (f a) Q) (hx : ∃ a,x = some a) : Tot ((if c then some a else x).bind f) Q:=by
 obtain ⟨b,rfl⟩:=hx;split <;> exact h _
section
variable {y : Tapi_Tx×Tlightclientmill_Deck} {pool : List Tapi_Entry} {k : Int} {n : Nat}
end
theorem heir_k1 {t : Tapi_Tx} {y : Tapi_Tx×Tlightclientmill_Deck} {d : Tlightclientmill_Deck} {ins : List Tapi_Input} (hd : DeckOk d) (hl : ins.length≤3) : Tot (Llaw36_heir_k1 t y d ins) fun r=>r.1.2.1.length≤4∧DeckOk r.2:=by
 unfold Llaw36_heir_k1;refine (next_tot hd (by omega) (by omega)).bind fun z hz=>tot_ite (fun _=>?_) (fun _=>tot_some ⟨by dsimp only; omega,hz.2⟩)
 rw [rid_eq,bind_some'];exact tot_chk (by omega) (tot_some ⟨by simp; omega,hz.2⟩)
end Go.Lc
end
section
/- Law 36,acceptance. -/
namespace Go.Lc
open Go.RowKit
open Go.Av
set_option linter.unusedVariables false

theorem tx_tot1 {d : Tlightclientmill_Deck} (h : DeckOk d) : Tot (Lmill_Tx d) fun r=>(1≤r.1.2.1.length∧r.1.2.1.length≤3)∧DeckOk r.2:=by
 unfold Lmill_Tx;refine (next_tot h (by omega) (by omega)).bind fun y1 h1=>(next_tot h1.2 (by omega) (by omega)).bind fun y2 h2=>(range_tot h2.2 (by omega) (by omega) (by omega)).bind fun y3 h3=>?_
 refine tot_loop (I:=fun n s=>s.1 = (n : Int)∧DeckOk s.2.1∧s.2.2.length + n = y3.1.toNat) (n:=y3.1.toNat) ?_ ⟨by dsimp only; omega,h3.2,by simp⟩;rintro n ⟨k,d1,ins⟩ ⟨hk,hd,hl⟩
 dsimp only at hk hd hl;simp only [Lmill_Tx_s1];refine tot_ite (fun hc=>?_) (fun hc=>?_)
 ·refine (hash_tot hd).bind fun y4 h4=>(next_tot h4 (by omega) (by omega)).bind fun y5 h5=>(next_tot h5.2 (by omega) (by omega)).bind fun y6 h6=>?_
  refine tot_inA (by omega) (by omega) fun j _ hj=>tot_get hj fun x _=>(next_tot h6.2 (by omega) (by omega)).bind fun y7 h7=>?_
  have hk3 : ∀ (d' : Tlightclientmill_Deck) (w : List (List Int)),DeckOk d'→Tot (Lmill_Tx_k3 ins k y4 y5 x d' w) (Nx (fun n s=>s.1 = (n : Int)∧DeckOk s.2.1∧s.2.2.length + n = y3.1.toNat) (fun r : Tapi_Tx×Tlightclientmill_Deck=>(1≤r.1.2.1.length∧r.1.2.1.length≤3)∧DeckOk r.2) n):=by
   intro d' w hd';unfold Lmill_Tx_k3;refine tot_chk (by omega) (tot_some ⟨n - 1,by omega,?_,hd',?_⟩)
   ·dsimp only
    rw [wi _ (by omega)];omega
   ·simp only [List.length_append,List.length_cons,List.length_nil]
    omega
  exact tot_ite (fun _=>(next_tot h7.2 (by omega) (by omega)).bind fun y8 h8=>hk3 _ _ h8.2) (fun _=>hk3 _ _ h7.2)
 ·refine Tot.out ?_
  unfold Lmill_Tx_k1;refine (range_tot hd (by omega) (by omega) (by omega)).bind fun y9 h9=>?_
  refine tot_loop (I:=fun n s=>s.1 = (n : Int)∧DeckOk s.2.1∧s.2.2.length + n≤3) (n:=y9.1.toNat) ?_ ⟨by dsimp only; omega,h9.2,by simp; omega⟩;rintro m ⟨k2,d2,outs⟩ ⟨hk2,hd2,hl2⟩
  dsimp only at hk2 hd2 hl2;simp only [Lmill_Tx_s2];refine tot_ite (fun hc=>?_) (fun hc=>?_)
  ·refine (next_tot hd2 (by omega) (by omega)).bind fun y4 h4=>(next_tot h4.2 (by omega) (by omega)).bind fun y5 h5=>?_
   rw [script_eq,bind_some'];refine tot_chk (by omega) (tot_some ⟨m - 1,by omega,?_,h5.2,?_⟩)
   ·dsimp only
    rw [wi _ (by omega)];omega
   ·simp only [List.length_append,List.length_cons,List.length_nil]
    omega
  ·refine Tot.out ?_
   unfold Lmill_Tx_k2;exact tot_some ⟨⟨by dsimp only; omega,by dsimp only; omega⟩,hd2⟩
theorem heir_tot {d : Tlightclientmill_Deck} (h : DeckOk d) {t : Tapi_Tx} (ht : t.2.1.length≤1000) : Tot (Llaw36_heir d t) fun r=>r.1.2.1.length≤4∧DeckOk r.2:=by
 unfold Llaw36_heir;refine (tx_tot1 h).bind fun y hy=>tot_ite (fun hc=>?_) (fun _=>heir_k1 hy.2 hy.1.2)
 refine (next_tot hy.2 (by omega) (by omega)).bind fun z hz=>?_
 refine tot_idx hz.1.1 hz.1.2 fun x _=>?_
 exact tot_chk (by omega) (heir_k1 hz.2 (by rw [List.length_set]; exact hy.1.2))
end Go.Lc
end
section
/- a way to compute lifted functions at given arguments: twins that the kernel can run -/
namespace Go.Lc
open Go.RowKit
open Go.Av
set_option linter.unusedVariables false
set_option linter.unusedSimpArgs false
class Force (α : Type) where
 force : {β : Type}→α→(α→β)→β
 eq : ∀ {β : Type} (a : α) (k : α→β),force a k = k a
noncomputable def forceN {β : Type} (n : Nat) (k : Nat→β) : β:=Nat.rec (motive:=fun _=>β) (k Nat.zero) (fun m _=>k (Nat.succ m)) n
theorem forceN_eq {β : Type} (n : Nat) (k : Nat→β) : forceN n k = k n:=by cases n <;> rfl
noncomputable instance : Force Nat:=⟨forceN,forceN_eq⟩
noncomputable def forceI {β : Type} (i : Int) (k : Int→β) : β:=Int.rec (motive:=fun _=>β) (fun n=>forceN n fun m=>k (Int.ofNat m)) (fun n=>forceN n fun m=>k (Int.negSucc m)) i
theorem forceI_eq {β : Type} (i : Int) (k : Int→β) : forceI i k = k i:=by
 cases i with
 | ofNat n=>exact forceN_eq n fun m=>k (Int.ofNat m)
 | negSucc n=>exact forceN_eq n fun m=>k (Int.negSucc m)
noncomputable instance : Force Int:=⟨forceI,forceI_eq⟩
noncomputable def forceB {β : Type} (b : Bool) (k : Bool→β) : β:=Bool.rec (motive:=fun _=>β) (k false) (k true) b
theorem forceB_eq {β : Type} (b : Bool) (k : Bool→β) : forceB b k = k b:=by cases b <;> rfl
noncomputable instance : Force Bool:=⟨forceB,forceB_eq⟩
noncomputable instance : Force Unit:=⟨fun _ k=>k (),fun _ _=>rfl⟩
noncomputable def forceP {α γ β : Type} [Force α] [Force γ] (p : α×γ) (k : α×γ→β) : β:=Prod.rec (motive:=fun _=>β) (fun a c=>Force.force a fun a=>Force.force c fun c=>k (a,c)) p
theorem forceP_eq {α γ β : Type} [Force α] [Force γ] (p : α×γ) (k : α×γ→β) : forceP p k = k p:=by
 obtain ⟨a,c⟩:=p;exact (Force.eq a _).trans (Force.eq c _)
noncomputable instance {α γ : Type} [Force α] [Force γ] : Force (α×γ):=⟨forceP,forceP_eq⟩
noncomputable def forceL {α β : Type} [Force α] (l : List α) (k : List α→β) : β:=List.rec (motive:=fun _=>(List α→β)→β) (fun k=>k []) (fun a _ ih k=>Force.force a fun a=>ih fun l=>k (a :: l)) l k
theorem forceL_eq {α β : Type} [Force α] (l : List α) (k : List α→β) : forceL l k = k l:=by
 induction l generalizing k with
 | nil=>rfl
 | cons a l ih =>
  refine (Force.eq (β:=β) a _).trans ?_;exact ih fun l=>k (a :: l)
noncomputable instance {α : Type} [Force α] : Force (List α):=⟨forceL,forceL_eq⟩
/-- an array anew: its length is looked at,not proved -/
noncomputable def forceA {n : Nat} {β : Type} (a : Arr n) (k : Arr n→β) : β:=forceL a.l fun l=>if h : Nat.beq l.length n = true then k ⟨l,Nat.eq_of_beq_eq_true h⟩ else k a
theorem forceA_eq {n : Nat} {β : Type} (a : Arr n) (k : Arr n→β) : forceA a k = k a:=by
 unfold forceA;rw [forceL_eq];split <;> rfl
noncomputable instance {n : Nat} : Force (Arr n):=⟨forceA,forceA_eq⟩
noncomputable instance {α γ : Type} [Force α] [Force γ] : Force (α ⊕ γ):=⟨fun x k=>Sum.rec (motive:=fun _=>_) (fun a=>Force.force a fun a=>k (.inl a)) (fun c=>Force.force c fun c=>k (.inr c)) x,fun x k=>by cases x <;> exact Force.eq _ _⟩
noncomputable instance {α : Type} [Force α] : Force (Option α):=⟨fun x k=>Option.rec (motive:=fun _=>_) (k none) (fun a=>Force.force a fun a=>k (some a)) x,fun x k=>by cases x <;> first | rfl | exact Force.eq _ _⟩
/-- what the first says,the second says too -/
def Le {α : Type} (o o' : Option α) : Prop:=∀ x,o = some x→o' = some x
theorem Le.refl {α : Type} (o : Option α) : Le o o:=fun _ h=>h
class Lec {α : Type} (o o' : Option α) : Prop where
 h : Le o o'
end Go.Lc
end
section
namespace Go.Lc
open Go.RowKit
open Go.Av
set_option maxRecDepth 100000
set_option linter.unusedSimpArgs false
set_option linter.unusedVariables false
end Go.Lc
end
section
/- lists of signatures: their order,and what two of them are together -/
namespace Go.Lc
open Go.RowKit
open Go.Av
set_option linter.unusedVariables false
set_option linter.unusedSimpArgs false
set_option maxRecDepth 100000

/-! numbers of four digits,and the order of signatures -/
def cmp4 (a b : Arr 4) : Int :=
 if a.at 3 < b.at 3 then -1 else if b.at 3 < a.at 3 then 1 else if a.at 2 < b.at 2 then -1 else if b.at 2 < a.at 2 then 1 else if a.at 1 < b.at 1 then -1 else if b.at 1 < a.at 1 then 1 else if a.at 0 < b.at 0 then -1 else if b.at 0 < a.at 0 then 1 else 0
def ltS (s t : Tapi_Signed) : Prop:=s.1 < t.1∨s.1 = t.1∧cmp4 s.2.1 t.2.1 < 0
noncomputable instance (s t : Tapi_Signed) : Decidable (ltS s t):=by unfold ltS; infer_instance
theorem cmp4_self (a : Arr 4) : cmp4 a a = 0:=by simp [cmp4]
theorem cmp4_lt {a b : Arr 4} : cmp4 a b < 0↔(a.at 3 < b.at 3∨a.at 3 = b.at 3∧(a.at 2 < b.at 2∨a.at 2 = b.at 2∧(a.at 1 < b.at 1∨a.at 1 = b.at 1∧a.at 0 < b.at 0))):=by
 unfold cmp4
 repeat' split
 all_goals omega
theorem ltS_irr (s : Tapi_Signed) : ¬ ltS s s:=by
 unfold ltS;rw [cmp4_self];omega
theorem ltS_trans {s t u : Tapi_Signed} (h : ltS s t) (h' : ltS t u) : ltS s u:=by
 unfold ltS at *;rw [cmp4_lt] at *;omega
/-! ascending lists -/
abbrev Asc (l : List Tapi_Signed) : Prop:=l.Pairwise ltS
theorem asc_ext {l m : List Tapi_Signed} (hl : Asc l) (hm : Asc m) (h : ∀ s,s∈l↔s∈m) : l = m:=by
 induction l generalizing m with
 | nil =>
  cases m with
  | nil=>rfl
  | cons b m=>exact absurd ((h b).2 (by simp)) (by simp)
 | cons a l ih =>
  cases m with
  | nil=>exact absurd ((h a).1 (by simp)) (by simp)
  | cons b m =>
   have hl' := List.pairwise_cons.1 hl;have hm' := List.pairwise_cons.1 hm
   have hab : a = b:=by
    rcases List.mem_cons.1 ((h a).1 (by simp)) with e | e
    ·exact e
    ·rcases List.mem_cons.1 ((h b).2 (by simp)) with f | f
     ·exact f.symm
     ·exact absurd (ltS_trans (hl'.1 b f) (hm'.1 a e)) (ltS_irr a)
   subst hab
   congr 1
   refine ih hl'.2 hm'.2 fun s=>?_
   constructor
   ·intro hs
    rcases List.mem_cons.1 ((h s).1 (List.mem_cons_of_mem _ hs)) with e | e
    ·subst e; exact absurd (hl'.1 s hs) (ltS_irr s)
    ·exact e
   ·intro hs
    rcases List.mem_cons.1 ((h s).2 (List.mem_cons_of_mem _ hs)) with e | e
    ·subst e; exact absurd (hm'.1 s hs) (ltS_irr s)
    ·exact e
/-- what both have,in order -/
def Union (x y z : List Tapi_Signed) : Prop:=Asc z∧∀ s,s∈z↔s∈x∨s∈y
theorem Union.ext {x y z z' : List Tapi_Signed} (h : Union x y z) (h' : Union x y z') : z = z' := asc_ext h.1 h'.1 fun s=>(h.2 s).trans (h'.2 s).symm
end Go.Lc
end
