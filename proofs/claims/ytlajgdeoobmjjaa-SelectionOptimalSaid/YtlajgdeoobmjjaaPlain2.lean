import Derived.Test.YtlajgdeoobmjjaaRCheck
namespace Go.Proofs.Ytlajgdeoobmjjaa
open Go.RowKit
set_option linter.unusedVariables false

/-- the sum of the values whose bits are set -/
def bsum : List Int → Nat → Int
  | [], _ => 0
  | z :: r, m => (if m % 2 = 1 then z else 0) + bsum r (m / 2)
theorem bsum_snoc (l : List Int) (z : Int) (m : Nat) : bsum (l ++ [z]) m = bsum l m + (if m / 2 ^ l.length % 2 = 1 then z else 0) := by
  induction l generalizing m with
  | nil => simp [bsum]
  | cons a r ih =>
    simp only [List.cons_append, bsum, ih, List.length_cons, Nat.div_div_eq_div_mul, Nat.pow_succ', Int.add_assoc]
theorem bsum_take (zs : List Int) (k m : Nat) (h : k < zs.length) : bsum (zs.take (k + 1)) m = bsum (zs.take k) m + (if m / 2 ^ k % 2 = 1 then zs[k] else 0) := by
  rw [List.take_succ_eq_append_getElem h, bsum_snoc, List.length_take, Nat.min_eq_left (by omega)]
theorem bsum_bd (zs : List Int) (h : ∀ z ∈ zs, Good z) (m k : Nat) : 0 ≤ bsum (zs.take k) m ∧ bsum (zs.take k) m ≤ 2100000000000000 * k := by
  induction zs generalizing m k with
  | nil => simp [bsum]; omega
  | cons a r ih =>
    cases k with
    | zero => simp [bsum]
    | succ k =>
      have h1 := ih (fun z hz => h z (by simp [hz])) (m / 2) k
      have h2 := h a (by simp)
      unfold Good at h2
      simp only [List.take_succ_cons, bsum]
      split <;> omega

def lstep (zs : List Int) (t b : Int) (m : Nat) : Int := if t ≤ bsum zs m ∧ (b < 0 ∨ bsum zs m < b) then bsum zs m else b
/-- the least sum of the first s sets that is enough, -1 if there is none -/
def lbest (zs : List Int) (t : Int) : Nat → Int
  | 0 => -1
  | s + 1 => lstep zs t (lbest zs t s) s

theorem lbest_spec (zs : List Int) (t : Int) (ht : 0 ≤ t) : ∀ s, (lbest zs t s = -1 ∧ ∀ m, m < s → bsum zs m < t) ∨ (t ≤ lbest zs t s ∧ (∃ m, m < s ∧ lbest zs t s = bsum zs m) ∧ ∀ m, m < s → t ≤ bsum zs m → lbest zs t s ≤ bsum zs m) := by
  intro s
  induction s with
  | zero => left; exact ⟨rfl, fun m hm => by omega⟩
  | succ s ih =>
    have hdef : lbest zs t (s + 1) = lstep zs t (lbest zs t s) s := rfl
    rw [hdef]
    unfold lstep
    rcases ih with ⟨h1, h2⟩ | ⟨h1, ⟨m0, hm0, e0⟩, h2⟩
    · by_cases hc : t ≤ bsum zs s ∧ (lbest zs t s < 0 ∨ bsum zs s < lbest zs t s)
      · rw [if_pos hc]
        right
        refine ⟨hc.1, ⟨s, by omega, rfl⟩, fun m hm hmt => ?_⟩
        rcases Nat.lt_or_ge m s with h | h
        · have := h2 m h; omega
        · obtain rfl : m = s := by omega
          omega
      · rw [if_neg hc]
        left
        refine ⟨h1, fun m hm => ?_⟩
        rcases Nat.lt_or_ge m s with h | h
        · exact h2 m h
        · obtain rfl : m = s := by omega
          omega
    · by_cases hc : t ≤ bsum zs s ∧ (lbest zs t s < 0 ∨ bsum zs s < lbest zs t s)
      · rw [if_pos hc]
        right
        refine ⟨hc.1, ⟨s, by omega, rfl⟩, fun m hm hmt => ?_⟩
        rcases Nat.lt_or_ge m s with h | h
        · have := h2 m h hmt; omega
        · obtain rfl : m = s := by omega
          omega
      · rw [if_neg hc]
        right
        refine ⟨h1, ⟨m0, by omega, e0⟩, fun m hm hmt => ?_⟩
        rcases Nat.lt_or_ge m s with h | h
        · exact h2 m h hmt
        · obtain rfl : m = s := by omega
          omega

theorem reach_set : ∀ (zs : List Int) (s x : Int), Reach zs s x → ∃ m, m < 2 ^ zs.length ∧ s + bsum zs m = x := by
  intro zs
  induction zs with
  | nil => intro s x h; exact ⟨0, by simp, by simp [Reach] at h; simp [bsum]; omega⟩
  | cons z r ih =>
    intro s x h
    rcases h with h | h
    · obtain ⟨m, hm, e⟩ := ih _ _ h
      refine ⟨2 * m + 1, by simp [Nat.pow_succ]; omega, ?_⟩
      rw [bsum, if_pos (by omega), show (2 * m + 1) / 2 = m by omega]; omega
    · obtain ⟨m, hm, e⟩ := ih _ _ h
      refine ⟨2 * m, by simp [Nat.pow_succ]; omega, ?_⟩
      rw [bsum, if_neg (by omega), show 2 * m / 2 = m by omega]; omega
theorem set_reach : ∀ (zs : List Int) (s : Int) (m : Nat), Reach zs s (s + bsum zs m) := by
  intro zs
  induction zs with
  | nil => intro s m; simp [Reach, bsum]
  | cons z r ih =>
    intro s m
    by_cases h : m % 2 = 1
    · left; have := ih (s + z) (m / 2); rw [bsum, if_pos h, ← Int.add_assoc]; exact this
    · right; have := ih s (m / 2); rw [bsum, if_neg h, Int.zero_add]; exact this
theorem noLess_reach {t b : Int} : ∀ {zs : List Int} {s x : Int}, NoLess t b zs s → Reach zs s x → b ≤ x ∨ x < t := by
  intro zs
  induction zs with
  | nil => intro s x h hx; simp [Reach] at hx; subst hx; exact h
  | cons z r ih => intro s x h hx; rcases hx with hx | hx; exact ih h.1 hx; exact ih h.2 hx

theorem follow_sound (t best : Int) : ∀ (rest : List Int) (s : Int) (tr l : List Int), Pos rest → followV t best rest s tr = some l → NoLess t best rest s := by
  intro rest
  induction rest with
  | nil =>
    intro s tr l hp h
    rcases tr with _ | ⟨x, tr⟩
    · rw [followV_nil] at h; cases h
    · by_cases h2 : x = 2
      · subst h2; rw [followV_leave] at h
        split at h
        · rename_i he
          rcases Bool.or_eq_true_iff.1 he with he | he
          · exact noLess_low hp (of_decide_eq_true he)
          · exact noLess_high hp (of_decide_eq_true he)
        · cases h
      · by_cases h1 : x = 1
        · subst h1; rw [followV_end] at h; cases h
        · rw [followV_other h2 h1] at h; cases h
  | cons z r ih =>
    intro s tr l hp h
    rcases tr with _ | ⟨x, tr⟩
    · rw [followV_nil] at h; cases h
    · by_cases h2 : x = 2
      · subst h2; rw [followV_leave] at h
        split at h
        · rename_i he
          rcases Bool.or_eq_true_iff.1 he with he | he
          · exact noLess_low hp (of_decide_eq_true he)
          · exact noLess_high hp (of_decide_eq_true he)
        · cases h
      · by_cases h1 : x = 1
        · subst h1; rw [followV_take] at h
          rcases h3 : followV t best r (s + z) tr with _ | tr1
          · rw [h3] at h; cases h
          · rw [h3] at h
            exact ⟨ih _ _ _ hp.tail h3, ih _ _ _ hp.tail h⟩
        · rw [followV_other h2 h1] at h; cases h

/-- ascending places from i on -/
def Asc : Nat → Nat → List Int → Prop
  | _, _, [] => True
  | i, n, p :: r => (i : Int) ≤ p ∧ p < n ∧ Asc (p.toNat + 1) n r
theorem asc_weak {i j n : Nat} {ps : List Int} (h : Asc j n ps) (hij : i ≤ j) : Asc i n ps := by
  cases ps with
  | nil => trivial
  | cons p r => exact ⟨by have := h.1; omega, h.2⟩
theorem asc_of_ok {n : Nat} : ∀ (ps pre : List Int), okPre n (pre ++ ps) (pre ++ ps).length → Asc (match pre.getLast? with | none => 0 | some q => q.toNat + 1) n ps := by
  intro ps
  induction ps with
  | nil => intro pre _; trivial
  | cons p r ih =>
    intro pre h
    have hp := h pre.length (by simp)
    have hle := okPre_le h pre.length (by simp)
    have hg : (pre ++ p :: r).getD pre.length 0 = p := by simp [List.getD]
    rw [hg] at hle
    refine ⟨?_, hle.2, ?_⟩
    · rcases List.eq_nil_or_concat pre with rfl | ⟨l, q, rfl⟩
      · simp; omega
      · simp only [List.concat_eq_append, List.getLast?_append, List.getLast?_singleton]
        simp [okAt] at hp
        have hq := okPre_le h l.length (by simp)
        simp [List.getD] at hq
        simp
        omega
    · have := ih (pre ++ [p]) (by simpa using h)
      simpa using this
theorem asc_reach (n : Nat) : ∀ (zs : List Int) (i : Nat) (ps : List Int) (s : Int), Asc i n ps → n = i + zs.length → Reach zs s (s + (ps.map (fun p => zs.getD (p.toNat - i) 0)).sum) := by
  intro zs
  induction zs with
  | nil =>
    intro i ps s h hn
    cases ps with
    | nil => simp [Reach]
    | cons p r => obtain ⟨h1, h2, _⟩ := h; simp at hn; omega
  | cons z r ih =>
    intro i ps s h hn
    have shift : ∀ l : List Int, Asc (i + 1) n l → l.map (fun p => (z :: r).getD (p.toNat - i) 0) = l.map (fun p => r.getD (p.toNat - (i + 1)) 0) := by
      intro l
      have gen : ∀ (l : List Int) (j : Nat), i + 1 ≤ j → Asc j n l → ∀ p ∈ l, i + 1 ≤ p.toNat := by
        intro l
        induction l with
        | nil => intro j _ _ p hp; cases hp
        | cons a t iht =>
          intro j hj ha p hp
          obtain ⟨a1, a2, a3⟩ := ha
          rcases List.mem_cons.1 hp with rfl | hp
          · omega
          · exact iht _ (by omega) a3 p hp
      intro hl
      apply List.map_congr_left
      intro p hp
      have := gen l (i + 1) (Nat.le_refl _) hl p hp
      rw [show p.toNat - i = (p.toNat - (i + 1)) + 1 by omega]
      rfl
    cases ps with
    | nil => simpa using reach_none (z :: r) s
    | cons p t =>
      obtain ⟨h1, h2, h3⟩ := h
      by_cases hpi : p = i
      · left
        subst hpi
        have h3' : Asc (i + 1) n t := by simpa using h3
        have := ih (i + 1) t (s + z) h3' (by simp at hn; omega)
        rw [List.map_cons, List.sum_cons, shift t h3']
        simp only [Int.toNat_natCast, Nat.sub_self, List.getD_cons_zero]
        rw [← Int.add_assoc]
        exact this
      · right
        have h4 : Asc (i + 1) n (p :: t) := ⟨by omega, h2, h3⟩
        rw [shift _ h4]
        exact ih (i + 1) (p :: t) s h4 (by simp at hn; omega)
theorem proper_reach {zs ps : List Int} {s : Int} (h : properB zs ps s = true) : Reach zs 0 s := by
  simp only [properB, Bool.and_eq_true, List.all_eq_true, decide_eq_true_eq] at h
  obtain ⟨h1, h2⟩ := h
  have ha := asc_of_ok (n := zs.length) ps [] (fun j hj => h1 j (by simpa using hj))
  have := asc_reach zs.length zs 0 ps 0 ha (by simp)
  rw [← h2]
  simpa [psum] using this

/-- a selection that is accepted has the least sum that is enough -/
theorem check_least {zs ps tr : List Int} {t s : Int} (h : selCheckV zs t ps s tr = 0) : s = lbest zs t (2 ^ zs.length) := by
  by_cases h0 : 16 < zs.length ∨ 16384 < tr.length
  · rw [scv_limit h0] at h; cases h
  · by_cases h1 : checkV zs t = 0
    · obtain ⟨hv, ht⟩ := (checkV_ok zs t).1 h1
      have hp := pos_of_vals hv
      cases h2 : properB zs ps s with
      | false => rw [scv_proper h0 h1 h2] at h; cases h
      | true =>
        by_cases h3 : s < t
        · rw [scv_funds h0 h1 h2 h3] at h; cases h
        · rw [scv_follow h0 h1 h2 h3] at h
          rcases hf : followV t s zs 0 tr with _ | l
          · rw [hf] at h; cases h
          · have hno := follow_sound t s zs 0 tr l hp hf
            obtain ⟨m, hm, em⟩ := reach_set zs 0 s (proper_reach h2)
            rw [Int.zero_add] at em
            rcases lbest_spec zs t (by have := ht.1; omega) (2 ^ zs.length) with ⟨_, h5⟩ | ⟨h5, ⟨m', hm', em'⟩, h6⟩
            · have := h5 m hm; omega
            · have a1 := h6 m hm (by omega)
              have a2 := noLess_reach hno (set_reach zs 0 m')
              rw [Int.zero_add, ← em'] at a2
              omega
    · rw [scv_check h0 h1] at h; exact absurd h h1
end Go.Proofs.Ytlajgdeoobmjjaa
