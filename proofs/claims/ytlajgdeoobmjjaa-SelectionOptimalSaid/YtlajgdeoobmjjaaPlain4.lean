import Derived.Test.YtlajgdeoobmjjaaPlain2
import Derived.Test.YtlajgdeoobmjjaaPlain3
namespace Go.Proofs.Ytlajgdeoobmjjaa
set_option linter.unusedVariables false

/-! ### the certificate of Best is accepted -/
theorem branch_len (t best : Int) : ∀ (rest : List Int) (s : Int) (tr : List Int), tr.length ≤ (branchV t best rest s tr).length ∧ (branchV t best rest s tr).length + 1 ≤ tr.length + 2 ^ (rest.length + 1) := by
  intro rest
  induction rest with
  | nil =>
    intro s tr
    by_cases hf : 16384 < tr.length
    · rw [branchV_full hf]; simp
    · rw [branchV_nil hf]; simp
  | cons z r ih =>
    intro s tr
    have hp : 2 ≤ 2 ^ (r.length + 1) := by
      have := Nat.pow_le_pow_right (show 0 < 2 by omega) (show 1 ≤ r.length + 1 by omega)
      simpa using this
    have hq : 2 ^ ((z :: r).length + 1) = 2 * 2 ^ (r.length + 1) := by simp only [List.length_cons, Nat.pow_succ]; omega
    rw [hq]
    by_cases hf : 16384 < tr.length
    · rw [branchV_full hf]; omega
    · cases hb : (decide (best ≤ s) || decide (s + (z :: r).sum < t)) with
      | true => rw [branchV_ends hf hb]; simp; omega
      | false =>
        rw [branchV_cons hf hb]
        have h1 := ih (s + z) (tr ++ [1])
        have h2 := ih s (branchV t best r (s + z) (tr ++ [1]))
        simp at h1
        omega

theorem follow_branch (t best : Int) : ∀ (rest : List Int) (s : Int) (tr : List Int), NoLess t best rest s → (branchV t best rest s tr).length ≤ 16384 →
    ∃ l, branchV t best rest s tr = tr ++ l ∧ ∀ X, followV t best rest s (l ++ X) = some X := by
  intro rest
  induction rest with
  | nil =>
    intro s tr hno hl
    by_cases hf : 16384 < tr.length
    · rw [branchV_full hf] at hl; omega
    · refine ⟨[2], branchV_nil hf, fun X => ?_⟩
      have he : (decide (best ≤ s) || decide (s + ([] : List Int).sum < t)) = true := by
        rcases hno with h | h
        · rw [decide_eq_true h]; rfl
        · rw [decide_eq_true (show s + ([] : List Int).sum < t by simpa using h)]; simp
      show followV t best [] s (2 :: X) = some X
      rw [followV_leave, if_pos he]
  | cons z r ih =>
    intro s tr hno hl
    by_cases hf : 16384 < tr.length
    · rw [branchV_full hf] at hl; omega
    · cases hb : (decide (best ≤ s) || decide (s + (z :: r).sum < t)) with
      | true =>
        refine ⟨[2], branchV_ends hf hb, fun X => ?_⟩
        show followV t best (z :: r) s (2 :: X) = some X
        rw [followV_leave, if_pos hb]
      | false =>
        rw [branchV_cons hf hb] at hl ⊢
        have hl1 := (branch_len t best r s (branchV t best r (s + z) (tr ++ [1]))).1
        obtain ⟨l1, e1, f1⟩ := ih (s + z) (tr ++ [1]) hno.1 (by omega)
        rw [e1] at hl ⊢
        obtain ⟨l2, e2, f2⟩ := ih s (tr ++ [1] ++ l1) hno.2 hl
        refine ⟨1 :: (l1 ++ l2), by rw [e2]; simp, fun X => ?_⟩
        show followV t best (z :: r) s (1 :: ((l1 ++ l2) ++ X)) = some X
        rw [followV_take, List.append_assoc, f1 (l2 ++ X)]
        exact f2 X

theorem places_asc : ∀ (rest : List Int) (i n : Nat) (left : Int) (l : List Int), n = i + rest.length → placesV rest i left = some l → Asc i n l ∧ (l.map (fun p => rest.getD (p.toNat - i) 0)).sum = left := by
  intro rest
  induction rest with
  | nil =>
    intro i n left l hn h
    by_cases h0 : left = 0
    · subst h0; rw [placesV_zero] at h; cases h; exact ⟨trivial, rfl⟩
    · rw [placesV_nil h0] at h; cases h
  | cons z r ih =>
    intro i n left l hn h
    by_cases h0 : left = 0
    · subst h0; rw [placesV_zero] at h; cases h; exact ⟨trivial, rfl⟩
    · by_cases h2 : left < 0 ∨ (z :: r).sum < left
      · rw [placesV_out h0 h2] at h; cases h
      · have shift : ∀ l : List Int, Asc (i + 1) n l → l.map (fun p => (z :: r).getD (p.toNat - i) 0) = l.map (fun p => r.getD (p.toNat - (i + 1)) 0) := by
          intro l hl
          have gen : ∀ (l : List Int) (j : Nat), i + 1 ≤ j → Asc j n l → ∀ p ∈ l, i + 1 ≤ p.toNat := by
            intro l
            induction l with
            | nil => intro j _ _ p hp; cases hp
            | cons a t iht =>
              intro j hj ha p hp
              obtain ⟨a1, a2, a3⟩ := ha
              rcases List.mem_cons.1 hp with rfl | hp
              · omega
              · exact iht _ (by omega) a3 p hp
          apply List.map_congr_left
          intro p hp
          have := gen l (i + 1) (Nat.le_refl _) hl p hp
          rw [show p.toNat - i = (p.toNat - (i + 1)) + 1 by omega]
          rfl
        rcases h3 : placesV r (i + 1) (left - z) with _ | l'
        · rw [placesV_skip h0 h2 h3] at h
          obtain ⟨a, b⟩ := ih (i + 1) n left l (by simp at hn; omega) h
          exact ⟨asc_weak a (by omega), by rw [shift l a]; exact b⟩
        · rw [placesV_take h0 h2 h3] at h
          cases h
          obtain ⟨a, b⟩ := ih (i + 1) n (left - z) l' (by simp at hn; omega) h3
          refine ⟨⟨by omega, by simp at hn; omega, by simpa using a⟩, ?_⟩
          rw [List.map_cons, List.sum_cons, shift l' a, b]
          simp
          omega

theorem ok_of_asc {n : Nat} : ∀ (ps : List Int) (i : Nat), Asc i n ps → ∀ j, j < ps.length → okAt n ps j = true := by
  intro ps
  induction ps with
  | nil => intro i _ j hj; simp at hj
  | cons p r ih =>
    intro i h j hj
    obtain ⟨h1, h2, h3⟩ := h
    cases j with
    | zero => simp [okAt]; omega
    | succ j =>
      have h4 := ih _ h3 j (by simpa using hj)
      simp only [okAt, List.getD_cons_succ, Bool.and_eq_true, decide_eq_true_eq, Nat.add_sub_cancel] at h4 ⊢
      refine ⟨h4.1, ?_⟩
      cases j with
      | zero =>
        cases r with
        | nil => simp at hj
        | cons q r' =>
          obtain ⟨b1, _, _⟩ := h3
          simp; omega
      | succ j =>
        have := h4.2
        simp at this ⊢
        exact this
theorem proper_of_asc {zs ps : List Int} {s : Int} (h : Asc 0 zs.length ps) (hs : psum zs ps = s) : properB zs ps s = true :=
  rproper_true (ok_of_asc ps 0 h) hs

/-- Best's answer is accepted -/
theorem best_checked {zs : List Int} {t : Int} (hv : Vals zs) (ht : Good t) (hf : ¬ zs.sum < t) (hn : zs.length ≤ 8) :
    (bestV zs t).err = 0 ∧ selCheckV zs t (bestV zs t).places (bestV zs t).sum (bestV zs t).trace = 0 := by
  have hc := (checkV_ok zs t).2 ⟨hv, ht⟩
  have hp := pos_of_vals hv
  obtain ⟨h1, h2, h3, h4⟩ := least_facts hp hf
  have hbl := (branch_len t (leastV t zs 0 zs.sum) zs 0 []).2
  have hpw : 2 ^ (zs.length + 1) ≤ 512 := by
    have := Nat.pow_le_pow_right (show 0 < 2 by omega) (show zs.length + 1 ≤ 9 by omega)
    simpa using this
  have hlen : ¬ 16384 < (branchV t (leastV t zs 0 zs.sum) zs 0 []).length := by simp at hbl; omega
  obtain ⟨l, hl⟩ := reach_places zs 0 0 _ hp h3
  rw [Int.sub_zero] at hl
  have hb : bestV zs t = ⟨l, leastV t zs 0 zs.sum, branchV t (leastV t zs 0 zs.sum) zs 0 [], 0⟩ := by
    rw [best_eq]
    unfold rbestV rbestOk
    simp only [hc, hf, hl]
    simp [hlen]
  rw [hb]
  refine ⟨rfl, ?_⟩
  obtain ⟨a1, a2⟩ := places_asc zs 0 zs.length _ l (by simp) hl
  have hpr : properB zs l (leastV t zs 0 zs.sum) = true := proper_of_asc a1 (by simpa [psum] using a2)
  have h16 := hv.1
  rw [scv_follow (by simp; omega) hc hpr (by omega)]
  obtain ⟨tr, e, f⟩ := follow_branch t (leastV t zs 0 zs.sum) zs 0 [] h1 (by omega)
  have := f []
  rw [e]
  simp only [List.nil_append, List.append_nil] at this ⊢
  rw [this]
  rfl

theorem lbest_none {zs : List Int} {t : Int} (hp : Pos zs) (ht : 0 ≤ t) (hf : zs.sum < t) : lbest zs t (2 ^ zs.length) = -1 := by
  rcases lbest_spec zs t ht (2 ^ zs.length) with h | ⟨h1, ⟨m, _, e⟩, _⟩
  · exact h.1
  · have : ∀ (l : List Int) (m : Nat), Pos l → bsum l m ≤ l.sum := by
      intro l
      induction l with
      | nil => intro m _; simp [bsum]
      | cons z r ih => intro m hp; have := ih (m / 2) hp.tail; have := hp.head; rw [bsum, List.sum_cons]; split <;> omega
    have := this zs m hp
    omega

/-! ### the greedy choice -/
/-- what is taken is not less than what is left; and without the last one it is not enough -/
structure GOpt (zs : List Int) (t : Int) (pl : List Int) (s : Int) : Prop where
  st : GSt zs t pl s
  top : ∀ p ∈ pl, ∀ j : Nat, j < zs.length → (j : Int) ∉ pl → zs.getD j 0 ≤ zs.getD p.toNat 0
  last : pl ≠ [] → ∃ g ∈ pl, s - zs.getD g.toNat 0 < t ∧ ∀ p ∈ pl, zs.getD g.toNat 0 ≤ zs.getD p.toNat 0
theorem gopt_init (zs : List Int) (t : Int) : GOpt zs t [] 0 := ⟨gst_init zs t, by simp, by simp⟩
theorem gopt_step {zs : List Int} {t : Int} {pl : List Int} {s : Int} (h : GOpt zs t pl s) (hst : s < t) (hs : s < zs.sum) : GOpt zs t (pl ++ [pickP zs pl]) (s + zs.getD (pickP zs pl).toNat 0) := by
  obtain ⟨h0, h1, h2⟩ := gst_pick h.st hs
  have e : ((pickP zs pl).toNat : Int) = pickP zs pl := Int.toNat_of_nonneg h0
  refine ⟨gst_step h.st hs, ?_, ?_⟩
  · intro p hp j hj hjn
    simp at hjn
    rcases List.mem_append.1 hp with hp | hp
    · exact h.top p hp j hj hjn.1
    · simp at hp
      subst hp
      exact pickV_max zs (fun j => pl.contains (j : Int)) zs.length j hj (by simpa using hjn.1)
  · intro _
    refine ⟨pickP zs pl, by simp, by omega, ?_⟩
    intro p hp
    rcases List.mem_append.1 hp with hp | hp
    · exact h.top p hp (pickP zs pl).toNat (by omega) (by rw [e]; exact h2)
    · simp at hp; subst hp; exact Int.le_refl _
theorem gopt_greed (zs : List Int) (t : Int) (hf : ¬ zs.sum < t) : ∀ (f : Nat) (pl : List Int) (s : Int), GOpt zs t pl s → zs.length ≤ pl.length + f → GOpt zs t (greedV zs t f (pl, s)).1 (greedV zs t f (pl, s)).2 ∧ t ≤ (greedV zs t f (pl, s)).2 := by
  intro f
  induction f with
  | zero =>
    intro pl s h hl
    refine ⟨h, ?_⟩
    rcases Int.lt_or_le s t with h1 | h1
    · have := gst_len_lt h.st (by omega); omega
    · exact h1
  | succ f ih =>
    intro pl s h hl
    rw [greedV]
    split
    · rename_i hs
      simp only at hs
      exact ih _ _ (gopt_step h hs (by omega)) (by simp; omega)
    · rename_i hs
      exact ⟨h, by simp only at hs ⊢; omega⟩

theorem takenL_asc (pl : List Int) (n : Nat) : ∀ k, k ≤ n → ∀ i, i ≤ k → Asc i n (((List.range' i (k - i)).filter (fun (j : Nat) => pl.contains (j : Int))).map (fun (j : Nat) => (j : Int))) := by
  intro k hk i
  generalize hd : k - i = d
  induction d generalizing i with
  | zero => intro _; simp [Asc]
  | succ d ih =>
    intro hi
    rw [List.range'_succ]
    by_cases hc : pl.contains (i : Int)
    · rw [List.filter_cons_of_pos (by simpa using hc), List.map_cons]
      exact ⟨by omega, by omega, by simpa using ih (i + 1) (by omega) (by omega)⟩
    · rw [List.filter_cons_of_neg (by simpa using hc)]
      exact asc_weak (ih (i + 1) (by omega) (by omega)) (by omega)
theorem taken_psum (zs pl : List Int) : ∀ k, k ≤ zs.length → psum zs (takenL pl k) + remV zs (fun j => pl.contains (j : Int)) k = (zs.take k).sum := by
  intro k
  induction k with
  | zero => intro _; simp [takenL, psum, remV]
  | succ k ih =>
    intro hk
    have h1 := ih (by omega)
    rw [takenL_succ, remV, List.take_succ_eq_append_getElem (show k < zs.length by omega), List.sum_append]
    have hg : zs.getD k 0 = zs[k] := by simp [List.getD, show k < zs.length by omega]
    by_cases hc : pl.contains (k : Int)
    · simp only [hc, if_true]
      rw [psum, List.map_append, List.sum_append, ← psum]
      simp only [List.map_cons, List.map_nil, List.sum_cons, List.sum_nil, Int.toNat_natCast]
      rw [hg]
      omega
    · simp only [hc]
      simp only [Bool.false_eq_true, if_false, List.append_nil, List.sum_cons, List.sum_nil]
      rw [hg]
      omega
theorem larg_facts {zs : List Int} {t : Int} (hv : Vals zs) (ht : Good t) (hf : ¬ zs.sum < t) :
    (largV zs t).err = 0 ∧ t ≤ (largV zs t).sum ∧ (largV zs t).sum ≤ zs.sum ∧ properB zs (largV zs t).places (largV zs t).sum = true ∧ (∃ g ∈ (largV zs t).places, (largV zs t).sum - zs.getD g.toNat 0 < t ∧ ∀ p ∈ (largV zs t).places, zs.getD g.toNat 0 ≤ zs.getD p.toNat 0) ∧ ∀ p ∈ (largV zs t).places, 0 ≤ p ∧ p < zs.length := by
  have hc := (checkV_ok zs t).2 ⟨hv, ht⟩
  obtain ⟨g1, g2⟩ := gopt_greed zs t hf zs.length [] 0 (gopt_init zs t) (by simp)
  have hl : largV zs t = rlargOk zs t := by rw [larg_eq]; simp [rlargV, hc, hf]
  rw [hl]
  unfold rlargOk
  generalize (greedV zs t zs.length ([], 0)).1 = pl at *
  generalize (greedV zs t zs.length ([], 0)).2 = s at *
  have hmem : ∀ a, a ∈ takenL pl zs.length ↔ a ∈ pl := by
    intro a
    rw [← sort_taken g1.st]
    exact (List.mergeSort_perm _ _).mem_iff
  have hsum := taken_psum zs pl zs.length (Nat.le_refl _)
  simp only [List.take_length] at hsum
  have hps : psum zs (takenL pl zs.length) = s := by have := g1.st.sum; omega
  have hasc : Asc 0 zs.length (takenL pl zs.length) := by
    have := takenL_asc pl zs.length zs.length (Nat.le_refl _) 0 (Nat.zero_le _)
    rw [Nat.sub_zero, ← List.range_eq_range'] at this
    exact this
  have hne : pl ≠ [] := by
    rintro rfl
    have h1 := g1.st.sum
    have h2 := (gst_init zs t).sum
    have := ht.1
    omega
  have hrem : 0 ≤ remV zs (fun j => pl.contains (j : Int)) zs.length := by
    have gen : ∀ k, k ≤ zs.length → 0 ≤ remV zs (fun j => pl.contains (j : Int)) k := by
      intro k
      induction k with
      | zero => intro _; simp [remV]
      | succ k ih =>
        intro hk
        have := ih (by omega)
        have hg := getD_good hv.2 (show k < zs.length by omega)
        unfold Good at hg
        rw [remV]
        split <;> omega
    exact gen _ (Nat.le_refl _)
  refine ⟨rfl, g2, by have := g1.st.sum; show s ≤ zs.sum; omega, proper_of_asc hasc hps, ?_, fun p hp => g1.st.rng p ((hmem p).1 hp)⟩
  obtain ⟨g, hg, a, b⟩ := g1.last hne
  exact ⟨g, (hmem g).2 hg, a, fun p hp => b p ((hmem p).1 hp)⟩
end Go.Proofs.Ytlajgdeoobmjjaa
