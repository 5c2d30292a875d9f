import Derived.Test.YtlfnplkjbejekaaL2
namespace Go.Proofs.Ytlfnplkjbejekaa
open Go.RowKit Go.Ab
set_option maxRecDepth 100000
set_option linter.unusedSimpArgs false
set_option linter.unusedVariables false
theorem sound_facts {d : Dis} (h : soundV d = true) : 0 ≤ d.lo ∧ d.lo < d.hi ∧ d.hi ≤ 16777216 ∧ 0 < d.cl.length ∧ claimsV d.cl = true := by
  unfold soundV heightsV at h
  simp only [Bool.and_eq_true, decide_eq_true_eq] at h
  exact ⟨h.1.1, h.1.2.1, h.1.2.2, h.2.1, h.2.2⟩
theorem ask_facts {d : Dis} (h : soundV d = true) (h2 : (askV d).2 = false) : (askV d).1 = d.lo + (d.hi - d.lo) / 2 ∧ 2 ≤ d.hi - d.lo := by
  obtain ⟨g1, g2, g3, g4, g5⟩ := sound_facts h
  unfold askV at h2 ⊢
  have w1 : IntKind.i64.wrap (d.hi - d.lo) = d.hi - d.lo := wrap_in (by unfold In64; omega)
  rw [if_pos h, w1] at h2 ⊢
  have w2 : (d.hi - d.lo).tdiv 2 = (d.hi - d.lo) / 2 := Int.tdiv_eq_ediv_of_nonneg (by omega)
  have w3 : IntKind.i64.wrap ((d.hi - d.lo) / 2) = (d.hi - d.lo) / 2 := wrap_in (by unfold In64; omega)
  have w4 : IntKind.i64.wrap (d.lo + (d.hi - d.lo) / 2) = d.lo + (d.hi - d.lo) / 2 := wrap_in (by unfold In64; omega)
  by_cases hs : 1 < d.hi - d.lo
  · rw [if_pos hs, w2, w3, w4]
    exact ⟨rfl, by omega⟩
  · rw [if_neg hs] at h2
    simp at h2
theorem bit_lt {a b : Nat} (h : 2 * a ≤ b) (h1 : 1 ≤ b) (hb : b < 2 ^ 63) : Lib.bitLen a < Lib.bitLen b := by
  have e1 := @bit_iff (b + 1) (Lib.bitLen a) (by omega) (by omega)
  simp only [Nat.add_sub_cancel] at e1
  refine e1.1 ?_
  by_cases h0 : Lib.bitLen a = 0
  · rw [h0]; simp; omega
  · have e2 := @bit_iff (a + 1) (Lib.bitLen a - 1) (by omega) (by omega)
    simp only [Nat.add_sub_cancel] at e2
    obtain ⟨e3, e4⟩ := e2.2 (by omega)
    obtain ⟨n, hn⟩ : ∃ n, Lib.bitLen a = n + 1 := ⟨Lib.bitLen a - 1, by omega⟩
    rw [hn] at e3 e4 ⊢
    simp only [Nat.add_sub_cancel] at e3 e4
    rw [Nat.pow_succ]
    refine ⟨?_, by omega⟩
    have : n < 63 := by
      rcases Nat.lt_or_ge n 63 with h | h
      · exact h
      · have := Nat.pow_le_pow_right (n := 2) (by omega) h
        omega
    omega
theorem rounds_lt {lo hi lo' hi' : Int} (h1 : lo' < hi') (h2 : 2 * (hi' - lo') ≤ hi - lo + 1) (h3 : hi - lo ≤ 16777216) (h4 : 2 ≤ hi - lo) : roundsV lo' hi' < roundsV lo hi := by
  unfold roundsV
  rw [if_neg (by omega), if_neg (by omega)]
  have := @bit_lt (hi' - lo' - 1).toNat (hi - lo - 1).toNat (by omega) (by omega) (by omega)
  omega
theorem cnt_old (L : List Cl) : ∀ D : List Cl, (oldV L D).length + (silV L D).length = D.length
  | [] => rfl
  | c :: D => by
    have ih := cnt_old L D
    unfold oldV silV at ih ⊢
    cases hc : findP L c.peer <;> simp [List.filter_cons, hc] at ih ⊢ <;> omega
theorem cnt_ans (L : List Cl) : ∀ D : List Cl, (ansV L D).length + (silV L D).length = D.length
  | [] => rfl
  | c :: D => by
    have ih := cnt_ans L D
    unfold ansV silV at ih ⊢
    cases hc : findP L c.peer <;> simp [List.filter_cons, List.filterMap_cons, hc] at ih ⊢ <;> omega
theorem find_peer {L : List Cl} {p : Int} {c : Cl} (h : findP L p = some c) : c.peer = p := by
  have := List.find?_some h
  simpa using this
theorem asc_ans (L : List Cl) : ∀ (D : List Cl) (b b' : Int), b' ≤ b → ascB b D = true → ascB b' (ansV L D) = true
  | [], b, b', _, _ => rfl
  | c :: D, b, b', hb, h => by
    simp only [ascB, Bool.and_eq_true, decide_eq_true_eq] at h
    unfold ansV
    cases hc : findP L c.peer with
    | none =>
      simp only [List.filterMap_cons, hc]
      exact asc_ans L D c.peer b' (by omega) h.2
    | some x =>
      simp only [List.filterMap_cons, hc, ascB, Bool.and_eq_true, decide_eq_true_eq]
      have := find_peer hc
      exact ⟨by omega, asc_ans L D c.peer x.peer (by omega) h.2⟩
theorem claims_ans {L D : List Cl} (h : claimsV D = true) : claimsV (ansV L D) = true := by
  unfold claimsV at h ⊢
  simp only [Bool.and_eq_true, decide_eq_true_eq] at h ⊢
  refine ⟨asc_ans L D _ _ (by omega) h.1, ?_⟩
  have := cnt_ans L D
  omega
/-- what Narrows says, in plain Lean -/
theorem narrows (d : Dis) (L : List Cl) :
    ((answerV d L).2.2 ≠ 0 ∧ (answerV d L).1 = zeroDis ∧ (answerV d L).2.1 = []) ∨
    ((answerV d L).2.2 = 0 ∧ (((answerV d L).1.lo = (askV d).1 ∧ (answerV d L).1.hi = d.hi) ∨ ((answerV d L).1.lo = d.lo ∧ (answerV d L).1.hi = (askV d).1 ∧ (answerV d L).1.ag = d.ag)) ∧
      (answerV d L).1.cl.length + (answerV d L).2.1.length = d.cl.length ∧ ((answerV d L).1.hi = (askV d).1 → openV (answerV d L).1 = true) ∧
      roundsV (answerV d L).1.lo (answerV d L).1.hi < roundsV d.lo d.hi ∧ In64 (answerV d L).1.lo ∧ In64 (answerV d L).1.hi) := by
  unfold answerV
  by_cases hs : (soundV d && claimsV L) = true
  · rw [if_pos hs]
    simp only [Bool.and_eq_true] at hs
    by_cases hk : (askV d).2 = true
    · rw [if_pos hk]; left; simp
    · rw [if_neg hk]
      have hk' : (askV d).2 = false := by simpa using hk
      obtain ⟨g1, g2, g3, g4, g5⟩ := sound_facts hs.1
      obtain ⟨f1, f2⟩ := ask_facts hs.1 hk'
      by_cases h0 : (ansV L d.cl).length = 0
      · rw [if_pos h0]; left; simp
      · rw [if_neg h0]
        right
        by_cases ha : agreeV (ansV L d.cl) = true
        · rw [if_pos ha]
          refine ⟨rfl, .inl ⟨rfl, rfl⟩, cnt_old L d.cl, ?_, ?_, ?_, ?_⟩
          · intro h; simp only at h; omega
          · simp only; rw [f1]; exact rounds_lt (by omega) (by omega) (by omega) (by omega)
          · unfold In64; simp only; omega
          · unfold In64; simp only; omega
        · rw [if_neg ha]
          refine ⟨rfl, .inr ⟨rfl, rfl, rfl⟩, cnt_ans L d.cl, ?_, ?_, ?_, ?_⟩
          · intro _
            unfold openV soundV heightsV
            simp only [claims_ans g5, Bool.and_eq_true, decide_eq_true_eq, Bool.not_eq_true'] 
            refine ⟨⟨⟨g1, ?_, ?_⟩, by omega, trivial⟩, by simpa using ha⟩ <;> omega
          · simp only; rw [f1]; exact rounds_lt (by omega) (by omega) (by omega) (by omega)
          · unfold In64; simp only; omega
          · unfold In64; simp only; omega
  · rw [if_neg hs]; left; simp
end Go.Proofs.Ytlfnplkjbejekaa
