import Derived.Test.YtlajgdeoobmjjaaProg
namespace Go.Proofs.Ytlajgdeoobmjjaa
set_option linter.unusedVariables false

/-- the first of the greatest values that are not taken, among the first k -/
def pickV (zs : List Int) (tk : Nat → Bool) : Nat → Int
  | 0 => -1
  | k + 1 => if tk k = false ∧ (pickV zs tk k < 0 ∨ zs.getD (pickV zs tk k).toNat 0 < zs.getD k 0) then k else pickV zs tk k

theorem pickV_lt (zs : List Int) (tk : Nat → Bool) : ∀ k, -1 ≤ pickV zs tk k ∧ pickV zs tk k < k ∧ (0 ≤ pickV zs tk k → tk (pickV zs tk k).toNat = false) := by
  intro k
  induction k with
  | zero => simp [pickV]
  | succ k ih =>
    simp only [pickV]
    split
    · rename_i h; refine ⟨by omega, by omega, fun _ => by simpa using h.1⟩
    · exact ⟨ih.1, by omega, ih.2.2⟩
theorem pickV_some (zs : List Int) (tk : Nat → Bool) : ∀ k, (∃ j, j < k ∧ tk j = false) → 0 ≤ pickV zs tk k := by
  intro k
  induction k with
  | zero => rintro ⟨j, hj, _⟩; omega
  | succ k ih =>
    rintro ⟨j, hj, htj⟩
    simp only [pickV]
    split
    · omega
    · rename_i h
      by_cases hk : pickV zs tk k < 0
      · have hk2 : ∀ i, i < k → tk i = true := by
          intro i hi
          cases hti : tk i
          · exact absurd (ih ⟨i, hi, hti⟩) (by omega)
          · rfl
        rcases Nat.lt_or_ge j k with h1 | h1
        · rw [hk2 j h1] at htj; cases htj
        · obtain rfl : j = k := by omega
          exact absurd ⟨htj, .inl hk⟩ h
      · omega
/-- what is picked is the greatest -/
theorem pickV_max (zs : List Int) (tk : Nat → Bool) : ∀ k j, j < k → tk j = false → zs.getD j 0 ≤ zs.getD (pickV zs tk k).toNat 0 := by
  intro k
  induction k with
  | zero => intro j hj; omega
  | succ k ih =>
    intro j hj htj
    have hs := pickV_some zs tk k
    simp only [pickV]
    split
    · rename_i h
      rcases Nat.lt_or_ge j k with h1 | h1
      · have h2 := ih j h1 htj
        have h3 := hs ⟨j, h1, htj⟩
        rcases h.2 with h4 | h4
        · omega
        · simp only [Int.toNat_natCast]; omega
      · obtain rfl : j = k := by omega
        simp
    · rename_i h
      rcases Nat.lt_or_ge j k with h1 | h1
      · exact ih j h1 htj
      · obtain rfl : j = k := by omega
        rcases Int.lt_or_le (zs.getD (pickV zs tk j).toNat 0) (zs.getD j 0) with h2 | h2
        · exact absurd ⟨htj, .inr h2⟩ h
        · exact h2

def pickP (zs pl : List Int) : Int := pickV zs (fun j => pl.contains (j : Int)) zs.length
/-- the greedy choice: the places that are taken, and their sum -/
def greedV (zs : List Int) (t : Int) : Nat → List Int × Int → List Int × Int
  | 0, st => st
  | f + 1, st => if st.2 < t then greedV zs t f (st.1 ++ [pickP zs st.1], st.2 + zs.getD (pickP zs st.1).toNat 0) else st

/-- the sum of what is not taken, among the first k -/
def remV (zs : List Int) (tk : Nat → Bool) : Nat → Int
  | 0 => 0
  | k + 1 => remV zs tk k + if tk k then 0 else zs.getD k 0
theorem remV_none (zs : List Int) : ∀ k, k ≤ zs.length → remV zs (fun _ => false) k = (zs.take k).sum := by
  intro k
  induction k with
  | zero => intro _; simp [remV]
  | succ k ih =>
    intro hk
    rw [List.take_succ_eq_append_getElem (by omega), List.sum_append, remV, ih (by omega)]
    simp [List.getD, List.getElem?_eq_getElem (show k < zs.length by omega)]
theorem remV_all (zs : List Int) (tk : Nat → Bool) : ∀ k, (∀ j, j < k → tk j = true) → remV zs tk k = 0 := by
  intro k
  induction k with
  | zero => intro _; rfl
  | succ k ih => intro h; rw [remV, ih (fun j hj => h j (by omega)), h k (by omega)]; simp
theorem remV_step (zs : List Int) (tk tk' : Nat → Bool) (g : Nat) (hg : tk g = false) (hg' : tk' g = true) (h : ∀ j, j ≠ g → tk' j = tk j) : ∀ k, remV zs tk' k = remV zs tk k - if g < k then zs.getD g 0 else 0 := by
  intro k
  induction k with
  | zero => simp [remV]
  | succ k ih =>
    rw [remV, remV, ih]
    by_cases hkg : k = g
    · subst hkg
      rw [hg, hg']
      simp
    · rw [h k hkg]
      have : (g < k + 1) = (g < k) := by apply propext; omega
      simp only [this]
      omega

/-- the state of the greedy choice is sound -/
structure GSt (zs : List Int) (t : Int) (pl : List Int) (s : Int) : Prop where
  rng : ∀ p ∈ pl, 0 ≤ p ∧ p < zs.length
  nd : pl.Nodup
  sum : s + remV zs (fun j => pl.contains (j : Int)) zs.length = zs.sum
  cnt : (pl.length : Int) + remV (List.replicate zs.length 1) (fun j => pl.contains (j : Int)) zs.length = zs.length

theorem gst_init (zs : List Int) (t : Int) : GSt zs t [] 0 := by
  refine ⟨by simp, by simp, ?_, ?_⟩
  · have := remV_none zs zs.length (Nat.le_refl _)
    simp at this
    simp only [List.contains_nil]
    omega
  · have := remV_none (List.replicate zs.length 1) zs.length (by simp)
    simp only [List.contains_nil]
    rw [this, List.take_of_length_le (by simp)]
    simp
theorem gst_pick {zs : List Int} {t : Int} {pl : List Int} {s : Int} (h : GSt zs t pl s) (hs : s < zs.sum) : 0 ≤ pickP zs pl ∧ pickP zs pl < zs.length ∧ pickP zs pl ∉ pl := by
  have h1 := pickV_lt zs (fun j => pl.contains (j : Int)) zs.length
  have h0 : 0 ≤ pickP zs pl := by
    apply pickV_some
    rcases Classical.em (∃ j, j < zs.length ∧ (pl.contains (j : Int)) = false) with h2 | h2
    · exact h2
    · have : remV zs (fun j => pl.contains (j : Int)) zs.length = 0 := remV_all _ _ _ (fun j hj => by
        cases hc : pl.contains (j : Int)
        · exact absurd ⟨j, hj, hc⟩ h2
        · rfl)
      have := h.sum
      omega
  refine ⟨h0, h1.2.1, ?_⟩
  have h3 := h1.2.2 h0
  intro hm
  have e : ((pickP zs pl).toNat : Int) = pickP zs pl := Int.toNat_of_nonneg h0
  have h4 : pl.contains ((pickP zs pl).toNat : Int) = true := by rw [e]; simpa using hm
  have h5 : pl.contains ((pickP zs pl).toNat : Int) = false := h3
  rw [h4] at h5
  cases h5
theorem gst_step {zs : List Int} {t : Int} {pl : List Int} {s : Int} (h : GSt zs t pl s) (hs : s < zs.sum) : GSt zs t (pl ++ [pickP zs pl]) (s + zs.getD (pickP zs pl).toNat 0) := by
  obtain ⟨h0, h1, h2⟩ := gst_pick h hs
  refine ⟨?_, ?_, ?_, ?_⟩
  · intro p hp
    rcases List.mem_append.1 hp with hp | hp
    · exact h.rng p hp
    · simp at hp; subst hp; exact ⟨h0, h1⟩
  · rw [List.nodup_append]
    refine ⟨h.nd, by simp, ?_⟩
    intro a ha b hb
    simp at hb
    subst hb
    rintro rfl
    exact h2 ha
  · have e : ((pickP zs pl).toNat : Int) = pickP zs pl := Int.toNat_of_nonneg h0
    have hst := remV_step zs (fun j => pl.contains (j : Int)) (fun j => (pl ++ [pickP zs pl]).contains (j : Int)) (pickP zs pl).toNat (by simp [e, h2]) (by simp [e]) (by
      intro j hj
      have : (j : Int) ≠ pickP zs pl := by omega
      simp [this]) zs.length
    rw [if_pos (by omega)] at hst
    have := h.sum
    omega
  · have e : ((pickP zs pl).toNat : Int) = pickP zs pl := Int.toNat_of_nonneg h0
    have hst := remV_step (List.replicate zs.length 1) (fun j => pl.contains (j : Int)) (fun j => (pl ++ [pickP zs pl]).contains (j : Int)) (pickP zs pl).toNat (by simp [e, h2]) (by simp [e]) (by
      intro j hj
      have : (j : Int) ≠ pickP zs pl := by omega
      simp [this]) zs.length
    rw [if_pos (by omega)] at hst
    have h3 : (List.replicate zs.length (1 : Int)).getD (pickP zs pl).toNat 0 = 1 := by
      simp [List.getD, show (pickP zs pl).toNat < zs.length by omega]
    rw [h3] at hst
    have := h.cnt
    simp only [List.length_append, List.length_cons, List.length_nil]
    omega
theorem rem_ones (n : Nat) (tk : Nat → Bool) : ∀ k, 0 ≤ remV (List.replicate n 1) tk k := by
  intro k
  induction k with
  | zero => simp [remV]
  | succ k ih =>
    rw [remV]
    have : 0 ≤ (List.replicate n (1 : Int)).getD k 0 := by
      simp only [List.getD, List.getElem?_replicate]
      split <;> simp
    split <;> omega
theorem gst_len {zs : List Int} {t : Int} {pl : List Int} {s : Int} (h : GSt zs t pl s) : pl.length ≤ zs.length := by
  have := h.cnt
  have := rem_ones zs.length (fun j => pl.contains (j : Int)) zs.length
  omega
theorem gst_len_lt {zs : List Int} {t : Int} {pl : List Int} {s : Int} (h : GSt zs t pl s) (hs : s < zs.sum) : pl.length < zs.length := by
  have := gst_len (gst_step h hs)
  simp at this
  omega
end Go.Proofs.Ytlajgdeoobmjjaa
