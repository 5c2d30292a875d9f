import Derived.Test.YtlajgdeoobmjjaaBest
namespace Go.Proofs.Ytlajgdeoobmjjaa

def Pos (l : List Int) : Prop := ∀ z ∈ l, 1 ≤ z
theorem Pos.tail {z : Int} {r : List Int} (h : Pos (z :: r)) : Pos r := fun x hx => h x (by simp [hx])
theorem Pos.head {z : Int} {r : List Int} (h : Pos (z :: r)) : 1 ≤ z := h z (by simp)
theorem Pos.sum {l : List Int} (h : Pos l) : 0 ≤ l.sum := by
  induction l with
  | nil => simp
  | cons z r ih => have := ih h.tail; have := h.head; simp; omega
theorem pos_of_vals {l : List Int} (h : Vals l) : Pos l := fun z hz => (h.2 z hz).1

theorem leastV_le (t : Int) : ∀ (rest : List Int) (s best : Int), leastV t rest s best ≤ best := by
  intro rest
  induction rest with
  | nil =>
    intro s best
    unfold leastV
    by_cases h : t ≤ s
    · rw [if_pos h]; omega
    · rw [if_neg h]; split <;> exact Int.le_refl _
  | cons z r ih =>
    intro s best
    by_cases h : t ≤ s
    · rw [leastV_hit h]; omega
    · cases he : (decide (best ≤ s) || decide (s + (z :: r).sum < t)) with
      | true => rw [leastV_ends h he]; omega
      | false => rw [leastV_cons h he]; have := ih s (leastV t r (s + z) best); have := ih (s + z) best; omega

theorem noLess_low {t b : Int} : ∀ {rest : List Int} {s : Int}, Pos rest → b ≤ s → NoLess t b rest s := by
  intro rest
  induction rest with
  | nil => intro s _ h; exact .inl h
  | cons z r ih => intro s hp h; exact ⟨ih hp.tail (by have := hp.head; omega), ih hp.tail h⟩
theorem noLess_high {t b : Int} : ∀ {rest : List Int} {s : Int}, Pos rest → s + rest.sum < t → NoLess t b rest s := by
  intro rest
  induction rest with
  | nil => intro s _ h; exact .inr (by simpa using h)
  | cons z r ih => intro s hp h; simp at h; exact ⟨ih hp.tail (by omega), ih hp.tail (by have := hp.head; omega)⟩
theorem noLess_mono {t b b' : Int} (hb : b' ≤ b) : ∀ {rest : List Int} {s : Int}, NoLess t b rest s → NoLess t b' rest s := by
  intro rest
  induction rest with
  | nil => intro s h; rcases h with h | h; exact .inl (by omega); exact .inr h
  | cons z r ih => intro s h; exact ⟨ih h.1, ih h.2⟩
theorem noLess_self {t b : Int} : ∀ {rest : List Int} {s : Int}, NoLess t b rest s → t ≤ s → b ≤ s := by
  intro rest
  induction rest with
  | nil => intro s h ht; rcases h with h | h; exact h; omega
  | cons z r ih => intro s h ht; exact ih h.2 ht

theorem least_noLess (t : Int) : ∀ (rest : List Int) (s best : Int), Pos rest → NoLess t (leastV t rest s best) rest s := by
  intro rest
  induction rest with
  | nil =>
    intro s best _
    by_cases h : t ≤ s
    · rw [leastV_hit h]; exact .inl (by omega)
    · exact .inr (by omega)
  | cons z r ih =>
    intro s best hp
    by_cases h : t ≤ s
    · rw [leastV_hit h]; exact noLess_low hp (by omega)
    · cases he : (decide (best ≤ s) || decide (s + (z :: r).sum < t)) with
      | true =>
        rw [leastV_ends h he]
        rcases Bool.or_eq_true_iff.1 he with he | he
        · exact noLess_low hp (of_decide_eq_true he)
        · exact noLess_high hp (of_decide_eq_true he)
      | false =>
        rw [leastV_cons h he]
        exact ⟨noLess_mono (leastV_le t r s _) (ih (s + z) best hp.tail), ih s _ hp.tail⟩

/-- x is the sum of s and some of the values -/
def Reach : List Int → Int → Int → Prop
  | [], s, x => x = s
  | z :: r, s, x => Reach r (s + z) x ∨ Reach r s x
theorem reach_all : ∀ (l : List Int) (s : Int), Reach l s (s + l.sum) := by
  intro l
  induction l with
  | nil => intro s; simp [Reach]
  | cons z r ih => intro s; exact .inl (by have := ih (s + z); rw [List.sum_cons, ← Int.add_assoc]; exact this)
theorem reach_none : ∀ (l : List Int) (s : Int), Reach l s s := by
  intro l
  induction l with
  | nil => intro s; rfl
  | cons z r ih => intro s; exact .inr (ih s)

theorem least_reach (t : Int) : ∀ (rest : List Int) (s best : Int), leastV t rest s best = best ∨ (t ≤ leastV t rest s best ∧ Reach rest s (leastV t rest s best)) := by
  intro rest
  induction rest with
  | nil =>
    intro s best
    by_cases h : t ≤ s
    · rw [leastV_hit h]
      by_cases hm : s ≤ best
      · right; rw [Int.min_eq_left hm]; exact ⟨h, rfl⟩
      · left; omega
    · left; unfold leastV; rw [if_neg h]; split <;> rfl
  | cons z r ih =>
    intro s best
    by_cases h : t ≤ s
    · rw [leastV_hit h]
      by_cases hm : s ≤ best
      · right; rw [Int.min_eq_left hm]; exact ⟨h, reach_none _ _⟩
      · left; omega
    · cases he : (decide (best ≤ s) || decide (s + (z :: r).sum < t)) with
      | true => rw [leastV_ends h he]; exact .inl rfl
      | false =>
        rw [leastV_cons h he]
        rcases ih s (leastV t r (s + z) best) with h1 | h1
        · rw [h1]
          rcases ih (s + z) best with h2 | h2
          · exact .inl h2
          · exact .inr ⟨h2.1, .inl h2.2⟩
        · exact .inr ⟨h1.1, .inr h1.2⟩

theorem places_prune : ∀ (rest : List Int) (i : Nat) (left : Int), Pos rest → (left < 0 ∨ rest.sum < left) → placesV rest i left = none := by
  intro rest i left hp h
  have hs := hp.sum
  cases rest with
  | nil => exact placesV_nil (by simp at h; omega)
  | cons z r => exact placesV_out (by omega) h
theorem places_cons {z : Int} {r : List Int} {i : Nat} {left : Int} (hp : Pos (z :: r)) (h : left ≠ 0) :
    placesV (z :: r) i left = match placesV r (i + 1) (left - z) with | some l => some ((i : Int) :: l) | none => placesV r (i + 1) left := by
  by_cases h2 : left < 0 ∨ (z :: r).sum < left
  · rw [placesV_out h h2]
    have := hp.head
    rw [places_prune r (i + 1) (left - z) hp.tail (by simp at h2; omega), places_prune r (i + 1) left hp.tail (by simp at h2; omega)]
  · rcases h3 : placesV r (i + 1) (left - z) with _ | l
    · rw [placesV_skip h h2 h3]
    · rw [placesV_take h h2 h3]
theorem reach_places : ∀ (rest : List Int) (i : Nat) (s x : Int), Pos rest → Reach rest s x → ∃ l, placesV rest i (x - s) = some l := by
  intro rest
  induction rest with
  | nil => intro i s x _ h; exact ⟨[], by rw [show x - s = 0 by simp [Reach] at h; omega]; exact placesV_zero⟩
  | cons z r ih =>
    intro i s x hp h
    by_cases h0 : x - s = 0
    · exact ⟨[], by rw [h0]; exact placesV_zero⟩
    · rw [places_cons hp h0]
      rcases h1 : placesV r (i + 1) (x - s - z) with _ | l
      · rcases h with h | h
        · obtain ⟨l, hl⟩ := ih (i + 1) (s + z) x hp.tail h
          rw [show x - (s + z) = x - s - z by omega, h1] at hl
          cases hl
        · exact ih (i + 1) s x hp.tail h
      · exact ⟨_, rfl⟩

/-- what the search comes to -/
theorem visit_spec (t B : Int) (ht : 1 ≤ t) (hB : t ≤ B) : ∀ (rest : List Int) (i : Nat) (s : Int) (tl : List Int) (b : List Int × Int), Pos rest → NoLess t B rest s → (0 < s → tl ≠ []) →
    (b.1 ≠ [] ∧ b.2 = B → visitV t rest i s tl b = b) ∧
    (b.1 = [] ∨ B < b.2 → (∀ l, placesV rest i (B - s) = some l → visitV t rest i s tl b = (tl ++ l, B) ∧ tl ++ l ≠ []) ∧
      (placesV rest i (B - s) = none → (visitV t rest i s tl b).1 = [] ∨ B < (visitV t rest i s tl b).2)) := by
  intro rest
  induction rest with
  | nil =>
    intro i s tl b hp hno htl
    by_cases hts : t ≤ s
    · have hBs := noLess_self hno hts
      refine ⟨fun ⟨h1, h2⟩ => visitV_leaf_keep hts (by simp [h1]; omega), fun h => ⟨fun l hl => ?_, fun hl => ?_⟩⟩
      · by_cases h0 : B - s = 0
        · rw [h0, placesV_zero] at hl
          cases hl
          have hset : b.1.length = 0 ∨ s < b.2 := by rcases h with h | h; exact .inl (by simp [h]); exact .inr (by omega)
          rw [visitV_leaf_set hts hset]
          exact ⟨by simp; omega, by simpa using htl (by omega)⟩
        · rw [placesV_nil h0] at hl; cases hl
      · have h0 : B - s ≠ 0 := by intro h0; rw [h0, placesV_zero] at hl; cases hl
        by_cases hset : b.1.length = 0 ∨ s < b.2
        · rw [visitV_leaf_set hts hset]; right; show B < s; omega
        · rw [visitV_leaf_keep hts hset]; exact h
    · refine ⟨fun _ => visitV_nil hts, fun h => ⟨fun l hl => ?_, fun _ => ?_⟩⟩
      · rw [placesV_nil (by omega)] at hl; cases hl
      · rw [visitV_nil hts]; exact h
  | cons z r ih =>
    intro i s tl b hp hno htl
    by_cases hts : t ≤ s
    · have hBs := noLess_self hno hts
      refine ⟨fun ⟨h1, h2⟩ => visitV_leaf_keep hts (by simp [h1]; omega), fun h => ⟨fun l hl => ?_, fun hl => ?_⟩⟩
      · by_cases h0 : B - s = 0
        · rw [h0, placesV_zero] at hl
          cases hl
          have hset : b.1.length = 0 ∨ s < b.2 := by rcases h with h | h; exact .inl (by simp [h]); exact .inr (by omega)
          rw [visitV_leaf_set hts hset]
          exact ⟨by simp; omega, by simpa using htl (by omega)⟩
        · rw [placesV_out h0 (.inl (by omega))] at hl; cases hl
      · have h0 : B - s ≠ 0 := by intro h0; rw [h0, placesV_zero] at hl; cases hl
        by_cases hset : b.1.length = 0 ∨ s < b.2
        · rw [visitV_leaf_set hts hset]; right; show B < s; omega
        · rw [visitV_leaf_keep hts hset]; exact h
    · rw [visitV_cons hts]
      have hz := hp.head
      obtain ⟨a1, a2⟩ := ih (i + 1) (s + z) (tl ++ [(i : Int)]) b hp.tail hno.1 (by simp)
      obtain ⟨c1, c2⟩ := ih (i + 1) s tl (visitV t r (i + 1) (s + z) (tl ++ [(i : Int)]) b) hp.tail hno.2 htl
      refine ⟨fun h => ?_, fun h => ?_⟩
      · have h1 := a1 h
        rw [h1] at c1 ⊢
        exact c1 h
      · have h0 : B - s ≠ 0 := by omega
        rw [places_cons hp h0]
        have e : B - s - z = B - (s + z) := by omega
        rw [e]
        rcases h3 : placesV r (i + 1) (B - (s + z)) with _ | l'
        · have := (a2 h).2 h3
          exact c2 this
        · obtain ⟨h4, h5⟩ := (a2 h).1 l' h3
          have := c1 (by rw [h4]; exact ⟨by simp, rfl⟩)
          refine ⟨fun l hl => ?_, fun hl => by cases hl⟩
          cases hl
          rw [this, h4]
          exact ⟨by simp, by simp⟩

def rbestOk (zs : List Int) (t : Int) : BestR :=
  let best := leastV t zs 0 zs.sum
  let tr := branchV t best zs 0 []
  if 16384 < tr.length then failR 4 else ⟨(placesV zs 0 best).getD [], best, tr, 0⟩
def rbestV (zs : List Int) (t : Int) : BestR :=
  if checkV zs t ≠ 0 then failR (checkV zs t) else if zs.sum < t then failR 320 else rbestOk zs t

theorem least_facts {zs : List Int} {t : Int} (hp : Pos zs) (hf : ¬ zs.sum < t) : NoLess t (leastV t zs 0 zs.sum) zs 0 ∧ t ≤ leastV t zs 0 zs.sum ∧ Reach zs 0 (leastV t zs 0 zs.sum) ∧ leastV t zs 0 zs.sum ≤ zs.sum := by
  refine ⟨least_noLess t zs 0 _ hp, ?_, ?_, leastV_le _ _ _ _⟩
  · rcases least_reach t zs 0 zs.sum with h | h
    · rw [h]; omega
    · exact h.1
  · rcases least_reach t zs 0 zs.sum with h | h
    · rw [h]; have := reach_all zs 0; simpa using this
    · exact h.2

theorem visit_best {zs : List Int} {t : Int} (hp : Pos zs) (ht : 1 ≤ t) (hf : ¬ zs.sum < t) :
    visitV t zs 0 0 [] ([], 0) = ((placesV zs 0 (leastV t zs 0 zs.sum)).getD [], leastV t zs 0 zs.sum) := by
  obtain ⟨h1, h2, h3, _⟩ := least_facts hp hf
  obtain ⟨l, hl⟩ := reach_places zs 0 0 _ hp h3
  have := (visit_spec t _ ht h2 zs 0 0 [] ([], 0) hp h1 (by simp)).2 (.inl rfl)
  have h4 := (this.1 l hl).1
  rw [h4]
  rw [Int.sub_zero] at hl
  rw [hl]; simp

theorem best_eq (zs : List Int) (t : Int) : bestV zs t = rbestV zs t := by
  unfold bestV rbestV
  by_cases hc : checkV zs t = 0
  · obtain ⟨hv, ht⟩ := (checkV_ok zs t).1 hc
    by_cases hf : zs.sum < t
    · simp [hc, hf]
    · simp only [hc, hf]
      simp only [bestOk, rbestOk, visit_best (pos_of_vals hv) ht.1 hf]
  · simp [hc]
end Go.Proofs.Ytlajgdeoobmjjaa
