import Derived.Test.YtconfbgcjkjnkaaDoorLcG4
import Derived.Test.YtconfbgcjkjnkaaDoorLcG3
section
/- plans and partial transactions: copies, comparisons, validity -/
namespace Go.Lc
open Go.RowKit
open Go.Av
set_option linter.unusedVariables false
set_option linter.unusedSimpArgs false
set_option maxRecDepth 100000

/-! copies -/
/-- a plan whose lists are short -/
structure PlanB (p : Tapi_Plan) : Prop where
 inl : p.1.2.1.length ≤ 1000
 inw : ∀ x ∈ p.1.2.1, x.2.2 = []
 oul : p.1.2.2.1.length ≤ 1000
 ous : ∀ o ∈ p.1.2.2.1, o.2.length ≤ 1000000
 col : p.2.1.length ≤ 1000
 cos : ∀ c ∈ p.2.1, c.2.1.2.length ≤ 1000000
theorem set_same {α : Type} {l : List α} {i : Nat} (h : i < l.length) {x : α} (hx : x = l[i]) : l.set i x = l := by
 subst hx
 exact List.set_getElem_self h
/-! comparisons -/
theorem loop_all {step : Int → Option (Int ⊕ Bool)} (n : Nat) (hn : n ≤ 9223372036854775807) (h : ∀ i, i < n → step (i : Int) = some (.inl (IntKind.i64.wrap ((i : Int) + 1)))) (he : step (n : Int) = (some true).map Sum.inr) : runLoop step 0 = some true :=
 runLoop_to (step := step) (fun i => (i : Int)) n (x := some true) (fun i hi => by rw [h i hi, wi_succ hi hn]) he
theorem rout_self (o : Tapi_Output) : Lref09_SameOut o o = some true := by
 unfold Lref09_SameOut Lref01_Same
 simp
/-! validity -/
end Go.Lc
end
section
/- Law 36: what a transaction that is put into a pool pays. -/
namespace Go.Lc
open Go.RowKit
open Go.Av
set_option linter.unusedVariables false
set_option linter.unusedSimpArgs false
set_option maxRecDepth 100000

theorem items_clone {l : List (List Int)} (h : l.length ≤ 1000000) (hb : ∀ s ∈ l, s.length ≤ 1000000) : Lreplace_cloneItems l = some l := by
 unfold Lreplace_cloneItems Lslices_Clone_of__byte_byte
 rw [chk_bind (by omega), bind_some']
 refine runLoop_to (step := Lreplace_cloneItems_s1 l) (fun i => ((i : Int), l)) l.length (x := some l) (fun i hi => ?_) ?_
 ·simp only [Lreplace_cloneItems_s1]
  have := hb _ (List.getElem_mem hi)
  rw [if_pos (by omega), inA_bind hi, get_bind hi, Lbytes_Clone, chk_bind (by omega), bind_some', set_same hi rfl, wi_succ hi (by omega)]
 ·simp only [Lreplace_cloneItems_s1]
  rw [if_neg (by omega)]
  rfl
theorem tx_clone {t : Tapi_Tx} (h : limS t) : Lreplace_cloneTx t = some t := by
 obtain ⟨h1, h2, h3, h4⟩ := h
 have hf : Lreplace_cloneTx_k1 t.2.2.1 t t.2.1 = some t := by
  unfold Lreplace_cloneTx_k1
  refine runLoop_to (step := Lreplace_cloneTx_s2 t.2.2.1 t t.2.1) (fun i => ((i : Int), t.2.2.1)) t.2.2.1.length (x := some t) (fun i hi => ?_) ?_
  ·simp only [Lreplace_cloneTx_s2]
   have := (h3 _ (List.getElem_mem hi)).2
   rw [if_pos (by omega), inA_bind hi, get_bind hi, Lbytes_Clone, chk_bind (by omega), bind_some', set_same hi rfl, wi_succ hi (by omega)]
  ·simp only [Lreplace_cloneTx_s2]
   rw [if_neg (by omega)]
   rfl
 unfold Lreplace_cloneTx Lslices_Clone_of__api_Input_api_Input Lslices_Clone_of__api_Output_api_Output
 rw [chk_bind (by omega), bind_some', chk_bind (by omega), bind_some']
 refine runLoop_to (step := Lreplace_cloneTx_s1 t.2.1 t.2.2.1 t) (fun i => ((i : Int), t.2.1)) t.2.1.length (x := some t) (fun i hi => ?_) ?_
 ·simp only [Lreplace_cloneTx_s1]
  have h5 := h4 _ (List.getElem_mem hi)
  rw [if_pos (by omega), inA_bind hi, get_bind hi, items_clone (by omega) (fun s hs => by have := h5.2 s hs; omega), bind_some', set_same hi rfl, wi_succ hi (by omega)]
 ·simp only [Lreplace_cloneTx_s1]
  rw [if_neg (by omega), hf]
theorem check_lim {t : Tapi_Tx} (h : checkS t = 0) : fitsS t = true ∧ limS t := by
 classical
 unfold checkS at h
 by_cases hf : fitsS t = true
 ·exact ⟨hf, fits_lim hf⟩
 ·rw [if_pos hf] at h
  omega
theorem sound_tot {l : List Tapi_Entry} (hl : l.length ≤ 1000) (hi : ∀ e ∈ l, e.1.2.1.length ≤ 1000) : Tot (Lreplace_sound l) fun b => b = true → ∀ e ∈ l, checkS e.1 = 0 ∧ monB e.2 = true := by
 unfold Lreplace_sound
 refine tot_loop (I := fun (n : Nat) (s : Int × List (Tapi_OutPoint × Bool)) => s.1 + (n : Int) = (l.length : Int) ∧ 0 ≤ s.1 ∧ ∀ j (hj : j < l.length), (j : Int) < s.1 → checkS (l[j]).1 = 0 ∧ monB (l[j]).2 = true) (n := l.length) ?_ ⟨by simp, by simp, fun j _ h => by dsimp only at h; omega⟩
 rintro n ⟨i, m⟩ ⟨h1, h2, h3⟩
 dsimp only at h1 h2 h3
 simp only [Lreplace_sound_s1]
 refine tot_ite (fun hc => ?_) (fun hc => ?_)
 ·obtain ⟨k, rfl⟩ := Int.eq_ofNat_of_zero_le h2
  have hk : k < l.length := by omega
  have hin := hi _ (List.getElem_mem hk)
  have m1 : ∀ f, Lreplace_money f = some (monB f) := fun _ => rfl
  rw [idx_bind hk, tx_check, bind_some', cb_eq, m1]
  by_cases c1 : checkS (l[k]).1 = 0
  ·cases c2 : cbS (l[k]).1
   ·cases c3 : monB (l[k]).2
    ·simp only [c1, not_true, if_false, bind_some', Bool.false_eq_true, or_self, Bool.not_false, or_true, if_true]
     exact tot_some (fun h => by cases h)
    ·simp only [c1, not_true, if_false, bind_some', Bool.false_eq_true, or_self, Bool.not_true]
     refine tot_loop (I := fun (n2 : Nat) (s : Int × List (Tapi_OutPoint × Bool)) => s.1 + (n2 : Int) = ((l[k]).1.2.1.length : Int) ∧ 0 ≤ s.1) (n := (l[k]).1.2.1.length) ?_ ⟨by simp, by simp⟩
     rintro n2 ⟨i2, m2⟩ ⟨g1, g2⟩
     dsimp only at g1 g2
     simp only [Lreplace_sound_s2]
     refine tot_ite (fun hc2 => ?_) (fun hc2 => ?_)
     ·refine tot_idx g2 (by omega) fun x _ => tot_ite (fun _ => tot_some (fun h => by cases h)) (fun _ => tot_some ⟨n2 - 1, by omega, ?_, ?_⟩)
      ·dsimp only
       rw [wi _ (by omega)]
       omega
      ·dsimp only
       rw [wi _ (by omega)]
       omega
     ·refine Tot.out ?_
      unfold Lreplace_sound_k2
      refine tot_some ⟨n - 1, by omega, ?_, ?_, fun j hj hji => ?_⟩
      ·dsimp only
       rw [wi _ (by omega)]
       omega
      ·dsimp only
       rw [wi _ (by omega)]
       omega
      ·dsimp only at hji
       rw [wi _ (by omega)] at hji
       by_cases e : j = k
       ·subst e
        exact ⟨c1, c3⟩
       ·exact h3 j hj (by omega)
   ·simp only [c1, not_true, if_false, bind_some', or_true, if_true, true_or]
    exact tot_some (fun h => by cases h)
  ·simp only [c1, not_false_eq_true, if_true, bind_some', true_or]
   exact tot_some (fun h => by cases h)
 ·refine Tot.out ?_
  unfold Lreplace_sound_k1
  refine tot_some fun _ e he => ?_
  obtain ⟨j, hj, rfl⟩ := List.getElem_of_mem he
  exact h3 j hj (by omega)
theorem cf_i1 {a1 : Arr 32} {l : List Tapi_Entry} (b : Tapi_Entry → Bool) (hl : l.length ≤ 1000000000) (hb : ∀ x ∈ l, Lreplace_Insert_1__r x a1 = some (b x)) : Lslices_ContainsFunc_of__api_Entry_api_Entry__replace_Insert_1 l a1 = some (l.any b) := by
 unfold Lslices_ContainsFunc_of__api_Entry_api_Entry__replace_Insert_1 Lslices_IndexFunc_of__api_Entry_api_Entry__replace_Insert_1
 refine find_loop l b (by omega) (fun i hi => ?_) ?_
 ·simp only [Lslices_IndexFunc_of__api_Entry_api_Entry__replace_Insert_1_s1]
  rw [if_pos (by omega), idx_bind hi, hb _ (List.getElem_mem hi), bind_some']
 ·simp only [Lslices_IndexFunc_of__api_Entry_api_Entry__replace_Insert_1_s1]
  rw [if_neg (by omega)]
  rfl
theorem filter_take {α : Type} {l : List α} {i : Nat} (h : i < l.length) (c : α → Bool) : (l.take (i + 1)).filter c = (l.take i).filter c ++ if c l[i] = true then [l[i]] else [] := by
 rw [List.take_succ_eq_append_getElem h, List.filter_append]
 congr 1
 by_cases hc : c l[i] = true <;> simp [hc]
/-- what an insertion without an overflow gives -/
def InsOk (pool : List Tapi_Entry) (t : Tapi_Tx) (f : Int) (r : List Tapi_Entry × List (Arr 32) × Int) : Prop :=
 (r.2.2 = 0 → (∀ e ∈ pool, monB e.2 = true) ∧ AccOk (pool.filter fun e => conS e.1 t) t f ∧ r.1 = (pool.filter fun e => !(conS e.1 t)) ++ [(t, f)] ∧ r.2.1.length = (pool.filter fun e => conS e.1 t).length) ∧ (r.2.2 ≠ 0 → r.1 = [] ∧ r.2.1 = [])
theorem ins_k1 {pool : List Tapi_Entry} {t : Tapi_Tx} {f : Int} (hp : pool.length ≤ 5) (hi : ∀ e ∈ pool, e.1.2.1.length ≤ 1000) (hm : ∀ e ∈ pool, monB e.2 = true) : Tot (Lreplace_Insert_k1 (pool.filter fun e => conS e.1 t) t f (pool.filter fun e => !(conS e.1 t)) 9) (InsOk pool t f) := by
 have l1 := List.length_filter_le (fun e : Tapi_Entry => conS e.1 t) pool
 have l2 := List.length_filter_le (fun e : Tapi_Entry => !(conS e.1 t)) pool
 unfold Lreplace_Insert_k1
 obtain ⟨c, e1, _, hk⟩ := accept_full (l := pool.filter fun e => conS e.1 t) (t := t) (f := f) (by omega) (fun e he => hi e (List.mem_filter.1 he).1)
 rw [e1, bind_some']
 by_cases hc : c = 0
 ·have hok := hk hc
  rw [if_neg (by simp [hc])]
  refine ⟨_, runLoop_to (step := Lreplace_Insert_s2 (pool.filter fun e => conS e.1 t) t (pool.filter fun e => !(conS e.1 t)) 9 f) (fun i => ((i : Int), ((pool.filter fun e => conS e.1 t).take i).map fun e => idS e.1)) (pool.filter fun e => conS e.1 t).length (x := some ((pool.filter fun e => !(conS e.1 t)) ++ [(t, f)], ((pool.filter fun e => conS e.1 t).take (pool.filter fun e => conS e.1 t).length).map (fun e => idS e.1), 0)) (fun i hi => ?_) ?_, fun _ => ⟨hm, hok, rfl, ?_⟩, fun h => (h rfl).elim⟩
  ·simp only [Lreplace_Insert_s2]
   rw [if_pos (by omega), inA_bind hi, get_bind hi, id_eq, bind_some', chk_bind (by simp; omega), wi_succ hi (by omega), List.take_succ_eq_append_getElem hi, List.map_append]
   rfl
  ·simp only [Lreplace_Insert_s2]
   rw [if_neg (by omega)]
   unfold Lreplace_Insert_k2
   rw [tx_clone (check_lim hok.1).2, bind_some', chk_bind (by omega)]
   congr 1
   refine runLoop_exit ?_
   simp only [Lreplace_Insert_s3]
   rw [if_neg (by omega)]
   rfl
  ·simp
 ·rw [if_pos hc]
  exact tot_some ⟨fun h => (hc h).elim, fun _ => ⟨rfl, rfl⟩⟩
theorem insert_tot {pool : List Tapi_Entry} {t : Tapi_Tx} {f : Int} (hp : pool.length ≤ 5) (hi : ∀ e ∈ pool, e.1.2.1.length ≤ 1000) (ht : t.2.1.length ≤ 1000) : Tot (Lreplace_Insert pool t f 9) (InsOk pool t f) := by
 unfold Lreplace_Insert
 refine (sound_tot (by omega) hi).bind fun b hb => tot_ite (fun _ => tot_some ⟨fun h => absurd h (by simp), fun _ => ⟨rfl, rfl⟩⟩) (fun hbt => ?_)
 have hs := hb (by simpa using hbt)
 rw [id_eq, bind_some', cf_i1 (fun e => decide (idS e.1 = idS t)) (by omega) (fun x _ => by unfold Lreplace_Insert_1__r; rw [id_eq]; rfl), bind_some']
 refine tot_ite (fun _ => tot_some ⟨fun h => absurd h (by simp), fun _ => ⟨rfl, rfl⟩⟩) (fun _ => ?_)
 have hk := ins_k1 (t := t) (f := f) hp hi (fun e he => (hs e he).2)
 obtain ⟨r, hr, hq⟩ := hk
 refine ⟨r, ?_, hq⟩
 rw [← hr]
 refine runLoop_to (step := Lreplace_Insert_s1 pool t f 9) (fun i => ((i : Int), (pool.take i).filter (fun e => conS e.1 t), (pool.take i).filter (fun e => !(conS e.1 t)))) pool.length (x := Lreplace_Insert_k1 (pool.filter fun e => conS e.1 t) t f (pool.filter fun e => !(conS e.1 t)) 9) (fun i h => ?_) ?_
 ·have l1 := List.length_filter_le (fun e : Tapi_Entry => conS e.1 t) (pool.take i)
  have l2 := List.length_filter_le (fun e : Tapi_Entry => !(conS e.1 t)) (pool.take i)
  have l3 := List.length_take_le i pool
  have hin := hi _ (List.getElem_mem h)
  simp only [Lreplace_Insert_s1]
  rw [if_pos (by omega), idx_bind h, con_eq (by omega) (by omega), bind_some', filter_take h, filter_take h]
  by_cases hc : conS (pool[i]).1 t = true
  ·rw [if_pos hc, chk_bind (by omega), if_pos hc, if_neg (by simp [hc])]
   unfold Lreplace_Insert_k4
   rw [wi_succ h (by omega), List.append_nil]
  ·rw [if_neg hc, tx_clone (check_lim (hs _ (List.getElem_mem h)).1).2, bind_some', chk_bind (by omega), if_neg hc, if_pos (by simp [hc])]
   unfold Lreplace_Insert_k4
   rw [wi_succ h (by omega), List.append_nil]
 ·simp only [Lreplace_Insert_s1]
  rw [if_neg (by omega), List.take_length]
end Go.Lc
end
section
/- Law 36: an inserted transaction pays more than what it replaces. -/
namespace Go.Lc
open Go.RowKit
open Go.Av
set_option linter.unusedVariables false
set_option linter.unusedSimpArgs false
set_option maxRecDepth 100000

theorem fee_pos {t : Tapi_Tx} (h : checkS t = 0) {v : Int} (hv : Lbuild_Fee (weightS t) 100 = some v) : 1 ≤ v := by
 classical
 obtain ⟨hf, _⟩ := check_lim h
 have h2 : (encS t true).length ≤ 20000 := by
  have := hf
  unfold fitsS at this
  simp only [decide_eq_true_eq] at this
  exact this.2
 have h3 : (encS t false).length ≤ (encS t true).length := by
  unfold encS
  simp only [List.length_append, List.length_nil, Bool.false_eq_true, if_false, if_true]
  omega
 have h4 : 4 ≤ (encS t false).length := by
  unfold encS
  simp only [List.length_append, lowB_len]
  omega
 have hw : weightS t = 3 * ((encS t false).length : Int) + ((encS t true).length : Int) := by
  unfold weightS
  rw [if_pos hf]
 rw [hw] at hv
 unfold Lbuild_Fee at hv
 rw [if_neg (by omega)] at hv
 injection hv with hv
 rw [wi (100 * _) (by omega), wi (100 * _ + 999) (by omega)] at hv
 rw [Int.tdiv_eq_ediv_of_nonneg (by omega), wi _ (by omega)] at hv
 omega
theorem stx_same {t : Tapi_Tx} (h : limS t) : Lref09_SameTx t t = some true := by
 obtain ⟨h1, h2, _, h4⟩ := h
 have hk : Lref09_SameTx_k1 t t = some true := by
  unfold Lref09_SameTx_k1
  refine loop_all t.2.2.1.length (by omega) (fun i hi => ?_) ?_
  ·simp only [Lref09_SameTx_s2]
   rw [if_pos (by omega), idx_bind hi, idx_bind hi, rout_self, bind_some', if_neg (by simp)]
  ·simp only [Lref09_SameTx_s2]
   rw [if_neg (by omega)]
   rfl
 unfold Lref09_SameTx
 rw [if_neg (by simp)]
 refine loop_all t.2.1.length (by omega) (fun i hi => ?_) ?_
 ·simp only [Lref09_SameTx_s1]
  have h5 := (h4 _ (List.getElem_mem hi)).1
  rw [if_pos (by omega), idx_bind hi, idx_bind hi, if_neg (by simp)]
  refine runLoop_to (step := Lref09_SameTx_s3 (t.2.1[i]) (t.2.1[i]) (i : Int)) (fun j => (j : Int)) (t.2.1[i]).2.2.length (x := some (.inl (IntKind.i64.wrap ((i : Int) + 1)))) (fun j hj => ?_) ?_
  ·simp only [Lref09_SameTx_s3]
   rw [if_pos (by omega), idx_bind hj, idx_bind hj]
   unfold Lref01_Same
   rw [bind_some', if_neg (by simp), wi_succ hj (by omega)]
  ·simp only [Lref09_SameTx_s3]
   rw [if_neg (by omega)]
   rfl
 ·simp only [Lref09_SameTx_s1]
  rw [if_neg (by omega), hk]
theorem feesS_filter_take {l : List Tapi_Entry} {i : Nat} (h : i < l.length) (c : Tapi_Entry → Bool) : sumI (feesS ((l.take (i + 1)).filter c)) = sumI (feesS ((l.take i).filter c)) + if c l[i] = true then (l[i]).2 else 0 := by
 rw [filter_take h]
 unfold feesS
 rw [List.map_append, sumI_app]
 congr 1
 split <;> simp [sumI]
theorem earn_k1 {y : (List Tapi_Entry) × Tlightclientmill_Deck} (hy : Q1 y) {a1 : Int} {t : Tapi_Tx} (ht : t.2.1.length ≤ 1000) : Llaw36_ReplaceEarns_k1 y a1 t.1 t.2.1 t.2.2.1 t.2.2.2 = some true := by
 obtain ⟨hp, hi, _⟩ := hy
 have hi' : ∀ e ∈ y.1, e.1.2.1.length ≤ 1000 := fun e he => by have := hi e he; omega
 unfold Llaw36_ReplaceEarns_k1
 obtain ⟨r, hr, h0, h1⟩ := insert_tot (pool := y.1) (t := t) (f := a1.tmod 9000) hp hi' ht
 have hr' : Lreplace_Insert y.1 (t.1, t.2.1, t.2.2.1, t.2.2.2) (a1.tmod 9000) 9 = some r := hr
 rw [hr', bind_some']
 by_cases hc : r.2.2 = 0
 ·rw [if_neg (by simp [hc])]
  obtain ⟨hm, ⟨k1, k2, k3, v, k4, k5⟩, k6, k7⟩ := h0 hc
  have hv := fee_pos k1 k4
  have hlim := (check_lim k1).2
  have hsum := sumI_le (l := feesS (y.1.filter fun e => conS e.1 t)) (c := 2100000000000000) (fun v hv => (k2 v hv).2)
  have hsp := sumI_pos (l := feesS (y.1.filter fun e => conS e.1 t)) (fun v hv => (k2 v hv).1)
  have hfl := List.length_filter_le (fun e : Tapi_Entry => conS e.1 t) y.1
  have hnl : (y.1.filter fun e => !(conS e.1 t)).length + (y.1.filter fun e => conS e.1 t).length = y.1.length := by
   have := List.length_eq_countP_add_countP (fun e : Tapi_Entry => conS e.1 t) (l := y.1)
   simp only [List.countP_eq_length_filter] at this
   simp only [decide_not, Bool.decide_eq_true, Bool.not_eq_true] at this
   rw [this]
   simp only [← Bool.not_eq_true]
   simp
   omega
  have hal : r.1.length = (y.1.filter fun e => !(conS e.1 t)).length + 1 := by rw [k6]; simp
  refine runLoop_to (step := Llaw36_ReplaceEarns_s1 y t.1 t.2.1 t.2.2.1 t.2.2.2 a1 r) (fun i => (sumI (feesS ((y.1.take i).filter fun e => conS e.1 t)), (((y.1.take i).filter fun e => conS e.1 t).length : Int), (i : Int))) y.1.length (x := some true) (fun i h => ?_) ?_
  ·have hin := hi' _ (List.getElem_mem h)
   have hmi := hm _ (List.getElem_mem h)
   simp only [monB, Bool.and_eq_true, decide_eq_true_eq] at hmi
   have g1 : ∀ v ∈ feesS ((y.1.take i).filter fun e => conS e.1 t), 0 ≤ v ∧ v ≤ 2100000000000000 := by
    intro v hv
    obtain ⟨e, he, rfl⟩ := List.mem_map.1 hv
    have he2 := hm e (List.mem_of_mem_take (List.mem_filter.1 he).1)
    simpa [monB] using he2
   have g2 := sumI_le (fun v hv => (g1 v hv).2)
   have g3 := sumI_pos (fun v hv => (g1 v hv).1)
   have g4 : (feesS ((y.1.take i).filter fun e => conS e.1 t)).length ≤ 5 := by
    unfold feesS
    rw [List.length_map]
    have l1 := List.length_filter_le (fun e : Tapi_Entry => conS e.1 t) (y.1.take i)
    have l2 := List.length_take_le i y.1
    omega
   have g5 := List.length_filter_le (fun e : Tapi_Entry => conS e.1 t) (y.1.take i)
   have g6 := List.length_take_le i y.1
   have hcon : Lreplace_Conflict (y.1[i]).1 (t.1, t.2.1, t.2.2.1, t.2.2.2) = some (conS (y.1[i]).1 t) := con_eq (t := t) (by omega) (by omega)
   simp only [Llaw36_ReplaceEarns_s1]
   rw [if_pos (by omega), inA_bind h, get_bind h, hcon, bind_some', feesS_filter_take h, filter_take h]
   unfold Llaw36_ReplaceEarns_k4
   by_cases hcc : conS (y.1[i]).1 t = true
   ·rw [if_pos hcc, if_pos hcc, if_pos hcc, wi_succ h (by omega), wi _ (by omega), wi _ (by omega), List.length_append]
    simp
   ·rw [if_neg hcc, if_neg hcc, if_neg hcc, wi_succ h (by omega)]
    simp
  ·simp only [Llaw36_ReplaceEarns_s1]
   rw [if_neg (by omega), List.take_length]
   unfold Llaw36_ReplaceEarns_k2
   have hfalse : ¬ ((a1.tmod 9000 ≤ sumI (feesS (y.1.filter fun e => conS e.1 t)) ∨ ¬ ((r.2.1.length : Int) = ((y.1.filter fun e => conS e.1 t).length : Int))) ∨ ¬ ((r.1.length : Int) = IntKind.i64.wrap ((IntKind.i64.wrap ((y.1.length : Int) - ((y.1.filter fun e => conS e.1 t).length : Int))) + 1))) := by
    rw [wi ((y.1.length : Int) - _) (by omega), wi _ (by omega)]
    omega
   have hw : IntKind.i64.wrap ((r.1.length : Int) - 1) = (((y.1.filter fun e => !(conS e.1 t)).length : Nat) : Int) := by
    rw [wi _ (by omega)]
    omega
   have hlast : idx r.1 (((y.1.filter fun e => !(conS e.1 t)).length : Nat) : Int) = some (t, a1.tmod 9000) := by
    have := idx_bind (l := r.1) (i := (y.1.filter fun e => !(conS e.1 t)).length) (f := some) (by omega)
    simpa [k6] using this
   have hsame : Lref09_SameTx (t, a1.tmod 9000).1 (t.1, t.2.1, t.2.2.1, t.2.2.2) = some true := stx_same hlim
   rw [if_neg hfalse, hw, hlast, bind_some', hsame, bind_some', bind_some', if_neg (by
    rintro (h | h)
    ·exact hfalse h
    ·simp at h), chk_bind (by omega)]
   congr 1
   have htk : r.1.take (((y.1.filter fun e => !(conS e.1 t)).length : Nat) : Int).toNat = y.1.filter fun e => !(conS e.1 t) := by
    rw [k6]
    simp
   refine loop_all (y.1.filter fun e => !(conS e.1 t)).length (by omega) (fun i h => ?_) ?_
   ·simp only [Llaw36_ReplaceEarns_s2]
    rw [hw, htk, if_pos (by omega), idx_bind h]
    have he := List.mem_filter.1 (List.getElem_mem h)
    have hin := hi' _ he.1
    have hcon : Lreplace_Conflict ((y.1.filter fun e => !(conS e.1 t))[i]).1 (t.1, t.2.1, t.2.2.1, t.2.2.2) = some (conS ((y.1.filter fun e => !(conS e.1 t))[i]).1 t) := con_eq (t := t) (by omega) (by omega)
    rw [hcon, bind_some', if_neg (by simpa using he.2)]
   ·simp only [Llaw36_ReplaceEarns_s2]
    rw [hw, htk, if_neg (by omega)]
    rfl
 ·rw [if_pos hc]
  obtain ⟨g1, g2⟩ := h1 hc
  rw [g1, g2]
  simp
theorem replaceEarns (a0 : List Int) (a1 : Int) (h : a0.length ≤ 9223372036854775807) : Llaw36_ReplaceEarns a0 a1 = some true := by
 unfold Llaw36_ReplaceEarns
 rw [sane36, bind_some', if_neg (by simp)]
 unfold Lmill_New
 rw [bind_some']
 have hd : DeckOk (a0, 0) := ⟨by simp, by simp, h⟩
 obtain ⟨y3, e3, g3⟩ := pool_tot hd (m := 5) (by omega)
 rw [e3, bind_some']
 obtain ⟨y4, e4, g4, _, g5⟩ := tx_tot g3.2.2
 rw [e4, bind_some']
 have hlen := g3.1
 by_cases hc : 0 < (y3.1.length : Int)
 ·rw [if_pos hc]
  obtain ⟨y5, e5, g6⟩ := next_tot g5 (n := (y3.1.length : Int)) (by omega) (by omega)
  rw [e5, bind_some']
  obtain ⟨k, hk⟩ := Int.eq_ofNat_of_zero_le g6.1.1
  have hkl : k < y3.1.length := by have := g6.1.2; omega
  rw [hk, inA_bind hkl, get_bind hkl]
  obtain ⟨y6, e6, g7⟩ := heir_tot g6.2 (t := (y3.1[k]).1) (by have := g3.2.1 _ (List.getElem_mem hkl); omega)
  rw [e6, bind_some', earn_k1 g3 (by omega)]
 ·rw [if_neg hc, earn_k1 g3 (by omega)]
end Go.Lc
end
