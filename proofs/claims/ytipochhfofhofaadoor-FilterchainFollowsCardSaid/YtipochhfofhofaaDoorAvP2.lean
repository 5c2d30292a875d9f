import Derived.Test.YtipochhfofhofaaDoorAvP1
import Derived.Laws.MakeOwn
import Derived.Lib.AppendStr
section
namespace Go.Av
open Go.RowKit
set_option linter.unusedVariables false
section
variable {P : Program} {tt : TT} {T : Tab} {G : Glob} {B : Nat} {ks : List Nat} {w0 : World} {S0 S S' : Nat → Nat → Prop} {bm bm' : BM} {bx : Boxes} {st st' : ASt} {a : Act} {w w' : World} {Q : Exit → Act → World → Prop} {o : Oper}

theorem flat_cut {els : List (List Cell)} {e i n : Nat} (hes : ∀ l ∈ els, l.length = e) (hle : i + n ≤ els.length) : ((els.drop i).take n).flatten = (els.flatten.drop (i * e)).take (n * e) := by
  have e1 : els.flatten = (els.take i).flatten ++ (((els.drop i).take n).flatten ++ (els.drop (i + n)).flatten) := by
    rw [← List.flatten_append, ← List.flatten_append]
    congr 1
    rw [← List.drop_drop, List.take_append_drop, List.take_append_drop]
  have hA : (els.take i).flatten.length = i * e := by rw [flat_len fun l hl => hes l (List.mem_of_mem_take hl)]; congr 1; simp; omega
  have hB : ((els.drop i).take n).flatten.length = n * e := by rw [flat_len fun l hl => hes l (List.mem_of_mem_drop (List.mem_of_mem_take hl))]; congr 1; simp; omega
  generalize (els.take i).flatten = F1 at e1 hA
  generalize ((els.drop i).take n).flatten = F2 at e1 hB
  rw [e1, List.drop_left' hA, List.take_left' hB]
theorem chunk_length {e : Nat} : ∀ {n : Nat} {cs : List Cell}, (chunk e n cs).length = n
  | 0, cs => rfl
  | n + 1, cs => by simp [chunk, chunk_length]
theorem chunk_each {e : Nat} : ∀ {n : Nat} {cs : List Cell}, n * e ≤ cs.length → ∀ l ∈ chunk e n cs, l.length = e
  | 0, cs, h, l, hl => by simp [chunk] at hl
  | n + 1, cs, h, l, hl => by
    rw [Nat.add_mul] at h
    simp only [chunk, List.mem_cons] at hl
    rcases hl with rfl | hl
    · simp; omega
    · exact chunk_each (n := n) (by simp; omega) l hl
theorem chunk_flat {e : Nat} : ∀ {n : Nat} {cs : List Cell}, n * e ≤ cs.length → (chunk e n cs).flatten = cs.take (n * e)
  | 0, cs, h => by simp [chunk]
  | n + 1, cs, h => by
    rw [Nat.add_mul] at h
    simp only [chunk, List.flatten_cons]
    rw [chunk_flat (n := n) (by simp; omega), Nat.add_mul, Nat.one_mul, Nat.add_comm (n * e) e, List.take_add]

/-- what the variables l hold -/
def Lent (bm : BM) (bx : Boxes) (l : List Nat) (k o : Nat) : Prop := ∃ nm, nm ∈ l ∧ ∃ b C, getB bx nm = some b ∧ bm nm = some (k, C) ∧ o < b.els.flatten.length
def orS (S S' : Nat → Nat → Prop) : Nat → Nat → Prop := fun k o => S k o ∨ S' k o

theorem pureL_all {R : Cell → Value → Prop} {cs : List Cell} {vs : List Value} (h : All2 (RepM S w bm bx) cs vs) (hp : pureL cs = true) : RepL S w cs vs := by
  induction h with
  | nil => exact .nil
  | cons h _ ih =>
    simp [pureL] at hp
    exact .cons (h.pureC hp.1) (ih (by simpa [pureL] using hp.2))
theorem pureLL_flat {els : List (List Cell)} (h : pureLL els = true) : pureL els.flatten = true := by
  simp only [pureLL, pureL, List.all_eq_true, List.mem_flatten] at *
  rintro x ⟨l, hl, hx⟩
  exact h l hl x hx
/-- a variable's block as data -/
theorem SimX.rowOf (h : SimX G B ks w0 S0 S bm st a w) {nm k C : Nat} {b : Box} (hb : getB st.boxes nm = some b) (hk : bm nm = some (k, C)) (hp : pureL b.els.flatten = true) :
    ∃ row : List Value, RepL S w b.els.flatten row ∧ Lies w k 0 row := by
  obtain ⟨hes, _, hB⟩ := h.boxes nm b hb
  rw [hk] at hB
  obtain ⟨arr, Ty, h1, h2, h3⟩ := hB.blk
  have hfl : b.els.flatten.length ≤ arr.size := by
    rw [flat_len hes]
    exact Nat.le_trans (Nat.mul_le_mul_right _ hB.room) h2
  have hm : All2 (RepM S w bm st.boxes) b.els.flatten (arr.toList.take b.els.flatten.length) := All2.of_get (by simp [-List.length_flatten]; omega) fun j c v hc hv => by
    have hj := getElem_pos hc
    rw [List.getElem?_take_of_lt hj] at hv
    exact h3 j c v hc (by simpa using hv)
  refine ⟨_, pureL_all (R := fun _ _ => True) hm hp, fun j u hu => ?_⟩
  have hj := getElem_pos hu
  simp [-List.length_flatten] at hj
  rw [List.getElem?_take_of_lt (by omega)] at hu
  rw [Nat.zero_add]
  simp only [World.cell?, h1]
  simpa using hu
theorem viewC_ok (h : SimX G B ks w0 S0 S bm st a w) {c c' : Cell} {v : Value} (hc : RepM S w bm st.boxes c v) (hv : viewC st.boxes c = some c') {l : List Nat} (hl : ∀ nm ∈ nmC c, nm ∈ l) : RepC (orS S (Lent bm st.boxes l)) w c' v := by
  cases c with
  | v x => simp [viewC] at hv; subst hv; exact (hc.pureC rfl).mono (fun _ _ h => .inl h) (fun _ _ _ => rfl)
  | slice o els => simp [viewC] at hv; subst hv; exact (hc.pureC rfl).mono (fun _ _ h => .inl h) (fun _ _ _ => rfl)
  | own e els => simp [viewC] at hv
  | bad => simp [viewC] at hv
  | ms nm ver i n e =>
    simp only [viewC] at hv
    split at hv
    · rename_i b hb
      split at hv <;> simp at hv
      rename_i hcond
      obtain ⟨hver, he0, hle, hpu⟩ := hcond
      subst hv
      cases hc with
      | pure hc => cases hc
      | ms _ _ _ _ _ x c h1 h2 h3 h4 =>
        obtain ⟨b', q1, q2, q3⟩ := h4
        rw [hb] at q1
        injection q1 with q1
        subst q1
        obtain ⟨r1, r2, r3⟩ := q3 hver
        have hlen : ((b.els.drop i).take n).length = n := by simp; omega
        obtain ⟨hes, _, _⟩ := h.boxes nm b hb
        rcases Nat.eq_zero_or_pos n with h0 | h0
        · subst h0
          simp only [List.take_zero]
          exact .slice [] x c e 0 0 (fun _ _ => undef) (by simp) h2 (by simp) he0 (by simp) (by simp) (by simp)
        · unfold Loc at r3
          split at r3
          · rename_i k C hbm
            obtain ⟨rfl, rfl⟩ := r3 (.inl h0)
            obtain ⟨row, g1, g2⟩ := h.rowOf hb hbm (pureLL_flat hpu)
            have hsub : ∀ l ∈ (b.els.drop i).take n, l.length = e := fun l hl => by rw [← r1]; exact hes l (List.mem_of_mem_drop (List.mem_of_mem_take hl))
            have hr : RepL S w ((b.els.drop i).take n).flatten ((row.drop (i * e)).take (n * e)) := by rw [flat_cut (e := e) (by rw [← r1]; exact hes) hle]; exact (g1.drop _).take _
            have := RepC.row (S := orS S (Lent bm st.boxes l)) (w := w) (b := k) (o := i * e) (c := C - i) hsub he0 (by omega) h2 (All2.mono hr fun _ _ h => h.mono (fun _ _ h => .inl h) (fun _ _ _ => rfl)) (by have := (g2.drop (i * e)).take (n * e); simpa using this) (fun j hj => by
              refine .inr ⟨nm, hl nm (by simp [nmC]), b, C, hb, hbm, ?_⟩
              rw [g1.length]
              simp at hj
              omega)
            rw [hlen] at this
            exact this
          · omega
    · simp at hv
  | fv nm ver off n e =>
    simp only [viewC] at hv
    split at hv
    · rename_i b hb
      split at hv
      · rename_i cs hels
        split at hv <;> simp at hv
        rename_i hcond
        obtain ⟨hver, he0, hle, hpu⟩ := hcond
        subst hv
        cases hc with
        | pure hc => cases hc
        | fv _ _ _ _ _ x c h1 h2 h3 h4 =>
          obtain ⟨b', q1, q2, q3⟩ := h4
          rw [hb] at q1
          injection q1 with q1
          subst q1
          have r3 := q3 hver
          have hlen : (chunk e n (cs.drop off)).length = n := chunk_length
          rcases Nat.eq_zero_or_pos n with h0 | h0
          · subst h0
            simp only [chunk]
            exact .slice [] x c e 0 0 (fun _ _ => undef) (by simp) h2 (by simp) he0 (by simp) (by simp) (by simp)
          · obtain ⟨k, C, hbm, rfl⟩ := r3 h0
            have hfl : b.els.flatten = cs := by rw [hels]; simp
            obtain ⟨row, g1, g2⟩ := h.rowOf hb hbm (by rw [hfl]; exact hpu)
            rw [hfl] at g1
            have hle' : n * e ≤ (cs.drop off).length := by simp; omega
            have hr : RepL S w (chunk e n (cs.drop off)).flatten ((row.drop off).take (n * e)) := by rw [chunk_flat hle']; exact (g1.drop _).take _
            have := RepC.row (S := orS S (Lent bm st.boxes l)) (w := w) (b := k) (o := off) (c := c) (chunk_each hle') he0 (by omega) h2 (All2.mono hr fun _ _ h => h.mono (fun _ _ h => .inl h) (fun _ _ _ => rfl)) (by have := (g2.drop off).take (n * e); simpa using this) (fun j hj => by
              refine .inr ⟨nm, hl nm (by simp [nmC]), b, C, hb, hbm, ?_⟩
              rw [hfl, g1.length]
              simp at hj
              omega)
            rw [hlen] at this
            exact this
      · simp at hv
    · simp at hv
theorem viewL_ok (h : SimX G B ks w0 S0 S bm st a w) : ∀ {cs cs' : List Cell} {vs : List Value}, All2 (RepM S w bm st.boxes) cs vs → viewL st.boxes cs = some cs' → ∀ {l : List Nat}, (∀ nm ∈ nmL cs, nm ∈ l) → RepL (orS S (Lent bm st.boxes l)) w cs' vs
  | [], cs', vs, hc, hv, l, hl => by cases hc; simp [viewL] at hv; subst hv; exact .nil
  | c :: cs, cs', vs, hc, hv, l, hl => by
    cases hc with
    | cons h1 h2 =>
      simp only [viewL] at hv
      split at hv <;> simp at hv
      rename_i d ds e1 e2
      subst hv
      exact .cons (viewC_ok h h1 e1 fun nm hn => hl nm (by simp [nmL]; exact .inl hn)) (viewL_ok h h2 e2 fun nm hn => hl nm (by simp only [nmL, List.flatMap_cons, List.mem_append]; exact .inr (by simpa [nmL] using hn)))
theorem viewC_pure {c c' : Cell} (h : viewC bx c = some c') : c'.pureB = true := by
  cases c <;> simp only [viewC] at h
  · simp at h; subst h; rfl
  · simp at h; subst h; rfl
  · split at h
    · split at h <;> simp at h; subst h; rfl
    · simp at h
  · split at h
    · split at h
      · split at h <;> simp at h; subst h; rfl
      · simp at h
    · simp at h
  · simp at h
  · simp at h
theorem viewL_pure : ∀ {cs cs' : List Cell}, viewL bx cs = some cs' → pureL cs' = true ∧ cs'.length = cs.length
  | [], cs', h => by simp [viewL] at h; subst h; exact ⟨rfl, rfl⟩
  | c :: cs, cs', h => by
    simp only [viewL] at h
    split at h <;> simp at h
    rename_i d ds h1 h2
    subst h
    obtain ⟨e1, e2⟩ := viewL_pure h2
    exact ⟨by simp [pureL, viewC_pure h1]; simpa [pureL] using e1, by simp [e2]⟩
/-- variables that are shown as data have data in them -/
theorem viewC_box {c c' : Cell} (h : viewC bx c = some c') : ∀ nm ∈ nmC c, ∃ b, getB bx nm = some b ∧ pureLL b.els = true := by
  cases c <;> simp only [viewC] at h
  · simp [nmC]
  · simp [nmC]
  · split at h
    · rename_i b hb
      split at h <;> simp at h
      rename_i hc
      intro nm hn
      simp [nmC] at hn
      subst hn
      exact ⟨b, hb, hc.2.2.2⟩
    · simp at h
  · split at h
    · rename_i b hb
      split at h
      · rename_i cs hels
        split at h <;> simp at h
        rename_i hc
        intro nm hn
        simp [nmC] at hn
        subst hn
        exact ⟨b, hb, by rw [hels]; simp [pureLL, hc.2.2.2]⟩
      · simp at h
    · simp at h
  · simp at h
  · simp at h
theorem viewL_box : ∀ {cs cs' : List Cell}, viewL bx cs = some cs' → ∀ nm ∈ nmL cs, ∃ b, getB bx nm = some b ∧ pureLL b.els = true
  | [], cs', h => by simp [nmL]
  | c :: cs, cs', h => by
    simp only [viewL] at h
    split at h <;> simp at h
    rename_i d ds h1 h2
    intro nm hn
    simp only [nmL, List.flatMap_cons, List.mem_append] at hn
    rcases hn with hn | hn
    · exact viewC_box h1 nm hn
    · exact viewL_box h2 nm (by simpa [nmL] using hn)

theorem SimX.freeze1 (h : SimX G B ks w0 S0 S bm st a w) {nm : Nat} {b : Box} (hb : getB st.boxes nm = some b) (hp : pureLL b.els = true) (hn : nm < 1000000) :
    SimX G B ks w0 S0 (orS S (Lent bm st.boxes [nm])) bm ⟨st.env, setB st.boxes nm { b with frz := true }⟩ a w := by
  obtain ⟨hes, _, hB⟩ := h.boxes nm b hb
  have hrefs : RefsLe bm st.boxes bm (setB st.boxes nm { b with frz := true }) := by
    intro m b0 hb0
    by_cases hm : nm = m
    · subst hm
      rw [hb] at hb0
      injection hb0 with hb0
      subst hb0
      exact ⟨_, getB_self, Nat.le_refl _, fun _ => ⟨rfl, rfl, rfl⟩⟩
    · exact ⟨b0, by rw [getB_ne hm]; exact hb0, Nat.le_refl _, fun _ => ⟨rfl, rfl, rfl⟩⟩
  cases hk : bm nm with
  | none =>
    rw [hk] at hB
    have hL : Lent bm st.boxes [nm] = fun _ _ => False := by
      funext k o
      apply propext
      refine ⟨?_, False.elim⟩
      rintro ⟨m, hm, b', C, _, h2, _⟩
      simp at hm
      subst hm
      rw [hk] at h2
      cases h2
    have hS : orS S (Lent bm st.boxes [nm]) = S := by
      funext k o
      simp [orS, hL]
    rw [hS]
    refine h.change hrefs (fun _ _ h => h) (fun _ _ _ => rfl) (Keeps.refl _ _ _) (fun _ _ h => .inl h) h.slt (fun m b' hb' => ?_) (fun m m' b1 b2 k C C' h1 h2 h3 h4 => ?_)
    · rw [getB_set] at hb'
      split at hb'
      · rename_i hm
        subst hm
        simp at hb'
        subst hb'
        refine .inr ⟨hes, fun _ => hp, ?_⟩
        rw [hk]
        exact hB
      · exact .inl ⟨hb', rfl, fun _ _ _ => ⟨rfl, fun _ h => h⟩⟩
    · have key : ∀ m b, getB (setB st.boxes nm { b with frz := true }) m = some b → True := fun _ _ _ => trivial
      have g1 : ∃ b, getB st.boxes m = some b := by
        rw [getB_set] at h1
        split at h1
        · rename_i hm; subst hm; exact ⟨b, hb⟩
        · exact ⟨_, h1⟩
      have g2 : ∃ b, getB st.boxes m' = some b := by
        rw [getB_set] at h2
        split at h2
        · rename_i hm; subst hm; exact ⟨b, hb⟩
        · exact ⟨_, h2⟩
      obtain ⟨c1, g1⟩ := g1
      obtain ⟨c2, g2⟩ := g2
      exact h.inj m m' c1 c2 k C C' g1 g2 h3 h4
  | some kc =>
    obtain ⟨k, C⟩ := kc
    rw [hk] at hB
    have hbm : (fun m => if m = nm then some (k, C) else bm m) = bm := by
      funext m
      by_cases hm : m = nm
      · subst hm; simp [hk]
      · simp [hm]
    have hBk : B ≤ k := by
      rcases hB.base' with h' | ⟨_, h'⟩
      · exact h'
      · omega
    have hLk : ∀ k' o, Lent bm st.boxes [nm] k' o ↔ k' = k ∧ o < b.els.flatten.length := by
      intro k' o
      constructor
      · rintro ⟨m, hm, b', C', h1, h2, h3⟩
        simp at hm
        subst hm
        rw [hb] at h1
        injection h1 with h1
        subst h1
        rw [hk] at h2
        simp at h2
        exact ⟨h2.1.symm, h3⟩
      · rintro ⟨rfl, h3⟩
        exact ⟨nm, by simp, b, C, hb, hk, h3⟩
    obtain ⟨arr, Ty, ha1, ha2, ha3⟩ := hB.blk
    have := h.box1 (S' := orS S (Lent bm st.boxes [nm])) (w' := w) nm { b with frz := true } k C (fun b0 hb0 => by rw [hb] at hb0; injection hb0 with hb0; subst hb0; exact ⟨Nat.le_refl _, fun _ => ⟨rfl, rfl, hk.symm⟩⟩) (.inr ⟨C, b, hk, hb⟩)
      ⟨rfl, rfl, rfl, Nat.le_refl _⟩ (fun _ _ _ => rfl) (fun _ _ h => .inl h) (fun _ _ => rfl) (fun b' o hs => hs.imp id fun hs => ⟨((hLk _ _).1 hs).1, hBk⟩) (heap_lt ha1) ?_
    · rw [hbm] at this
      exact this
    · refine ⟨hes, fun _ => hp, ?_⟩
      simp only [if_true]
      refine ⟨.inl ⟨hn, hBk⟩, ⟨arr, Ty, ha1, ha2, fun i c v hc hv => (ha3 i c v hc hv).mono (fun _ _ h => .inl h) (fun _ _ _ => rfl) (by rw [hbm]; exact hrefs)⟩, hB.room, hB.cap, fun o hs => ⟨rfl, ?_⟩, fun _ o ho => .inr ((hLk _ _).2 ⟨rfl, ho⟩), hB.one⟩
      rcases hs with hs | hs
      · exact (hB.free o hs).2
      · exact ((hLk _ _).1 hs).2
theorem frzL_set {nm : Nat} {b : Box} (hb : getB bx nm = some b) : ∀ l : List Nat, frzL (setB bx nm { b with frz := true }) l = frzL bx l
  | [] => rfl
  | m :: l => by
    simp only [frzL, getB_set]
    by_cases hm : nm = m
    · subst hm
      simp [hb, frzL_set hb l]
    · simp [hm, frzL_set hb l]
theorem Lent_set {nm : Nat} {b : Box} (hb : getB bx nm = some b) (l : List Nat) : Lent bm (setB bx nm { b with frz := true }) l = Lent bm bx l := by
  funext k o
  apply propext
  constructor
  · rintro ⟨m, hm, b', C, h1, h2, h3⟩
    rw [getB_set] at h1
    split at h1
    · rename_i he
      subst he
      simp at h1
      subst h1
      exact ⟨nm, hm, b, C, hb, h2, h3⟩
    · exact ⟨m, hm, b', C, h1, h2, h3⟩
  · rintro ⟨m, hm, b', C, h1, h2, h3⟩
    by_cases he : nm = m
    · subst he
      rw [hb] at h1
      injection h1 with h1
      subst h1
      exact ⟨nm, hm, _, C, getB_self, h2, h3⟩
    · exact ⟨m, hm, b', C, by rw [getB_ne he]; exact h1, h2, h3⟩
theorem SimX.freeze : ∀ (l : List Nat) {st : ASt} {S : Nat → Nat → Prop}, SimX G B ks w0 S0 S bm st a w → (∀ nm ∈ l, ∃ b, getB st.boxes nm = some b ∧ pureLL b.els = true) → frzOk l = true →
    SimX G B ks w0 S0 (orS S (Lent bm st.boxes l)) bm ⟨st.env, setBs st.boxes (frzL st.boxes l)⟩ a w
  | [], st, S, h, _, _ => by
    have hS : orS S (Lent bm st.boxes []) = S := by
      funext k o
      simp [orS, Lent]
    rw [hS]
    exact h
  | nm :: l, st, S, h, hb, hf => by
    obtain ⟨b, h1, h2⟩ := hb nm (by simp)
    simp [frzOk] at hf
    have hs := h.freeze1 h1 h2 hf.1
    have := SimX.freeze l hs (fun m hm => by
      obtain ⟨b', g1, g2⟩ := hb m (by simp [hm])
      simp only [getB_set]
      by_cases he : nm = m
      · subst he
        rw [h1] at g1
        injection g1 with g1
        subst g1
        exact ⟨{ b with frz := true }, by simp, h2⟩
      · exact ⟨b', by simp [he, g1], g2⟩) (by simpa [frzOk] using hf.2)
    simp only [frzL_set h1, Lent_set h1] at this
    have hS : orS (orS S (Lent bm st.boxes [nm])) (Lent bm st.boxes l) = orS S (Lent bm st.boxes (nm :: l)) := by
      funext k o
      apply propext
      simp only [orS, Lent, List.mem_cons, List.not_mem_nil, or_false]
      constructor
      · rintro ((h | ⟨m, rfl, h⟩) | ⟨m, hm, h⟩)
        · exact .inl h
        · exact .inr ⟨m, .inl rfl, h⟩
        · exact .inr ⟨m, .inr hm, h⟩
      · rintro (h | ⟨m, rfl | hm, h⟩)
        · exact .inl (.inl h)
        · exact .inl (.inr ⟨m, rfl, h⟩)
        · exact .inr ⟨m, hm, h⟩
    rw [hS] at this
    simp only [frzL, h1, setBs]
    exact this
end
end Go.Av
end
section
namespace Go.Av
open Go.RowKit
set_option linter.unusedVariables false

/-- what is put behind a slice, or copied: n elements -/
structure Src (P : Program) (w : World) (t' : TypeId) (size n : Nat) (y : Value) (news : List Value) : Prop where
  ty : ∃ d, P.underlying t' = some d ∧ ∀ k, d ≠ .int k
  len : ∀ w, (Builtin.lenOf y).run P w = .ok n w
  cells : ∀ m, m ≤ n → (Builtin.firstCells size m y).run P w = .ok (news.take (m * size)).toArray w
  drawn : ∀ m, m ≤ n → (Builtin.firstCells size m y).run P w.drew = .ok (news.take (m * size)).toArray w.drew
  hl : news.length = n * size

section
variable {P : Program} {tt : TT} {T : Tab} {G : Glob} {B : Nat} {ks : List Nat} {w0 : World} {S0 S S' : Nat → Nat → Prop} {bm bm' : BM} {bx : Boxes} {st st' : ASt} {a : Act} {w w' : World} {Q : Exit → Act → World → Prop} {o : Oper}

theorem Src.all {t' : TypeId} {size n : Nat} {y : Value} {news : List Value} (h : Src P w t' size n y news) : (Builtin.firstCells size n y).run P w = .ok news.toArray w ∧ (Builtin.firstCells size n y).run P w.drew = .ok news.toArray w.drew := by
  have h1 := h.cells n (Nat.le_refl _)
  have h2 := h.drawn n (Nat.le_refl _)
  rw [List.take_of_length_le (by rw [h.hl]; exact Nat.le_refl _)] at h1 h2
  exact ⟨h1, h2⟩
theorem run_app_in {t t' ty e : TypeId} {i : TypeInfo} (ht : P.underlying t = some (.slice e)) (hi : P.info? e = some i) {n : Nat} {y : Value} {news : List Value} (hs : Src P w t' i.size n y news)
    {g off sLen sCap : Nat} {cur : Array Value} {Ty : TypeId} (hg : w.heap[g]? = some (.cells cur Ty (0, 0))) (h1 : ∀ u ∈ news, u.oneCell' = true) (hroom : sLen + n ≤ sCap) (hfit : off + sLen * i.size + news.length ≤ cur.size) :
    (Builtin.append_ #[t, t'] ty #[.slice (some ⟨g, off, none⟩) sLen sCap, y]).run P w =
      .ok (.slice (some ⟨g, off, none⟩) (sLen + n) sCap) (w.setRow g (cur.toList.take (off + sLen * i.size) ++ news ++ cur.toList.drop (off + sLen * i.size + news.length)).toArray) := by
  obtain ⟨d, hd, hdn⟩ := hs.ty
  have hf := hs.all.1
  have hst := run_storeCells_at P g (off + sLen * i.size) Ty news 0 cur w hg (by simpa using hfit) h1
  simp only [Nat.add_zero] at hst
  have hlen := hs.len w
  have hz : ((match d with | .int _ => true | _ => false) : Bool) = false := by
    cases d <;> first | rfl | (exact absurd rfl (hdn _))
  simp [Builtin.append_, run_underlying ht, run_underlying hd, sizeOf, typeInfo, hi]
  cases d <;> first | (exact absurd rfl (hdn _)) | simp [hlen, hroom, hf, Addr.add_lit, hst]
theorem run_app_zero {t t' ty e : TypeId} {i : TypeInfo} (ht : P.underlying t = some (.slice e)) (hi : P.info? e = some i) {y : Value} {news : List Value} (hs : Src P w t' i.size 0 y news) (b : Option Addr) {n c : Nat} (hc : n ≤ c) :
    (Builtin.append_ #[t, t'] ty #[.slice b n c, y]).run P w = .ok (.slice b n c) w := by
  obtain ⟨d, hd, hdn⟩ := hs.ty
  have hf := hs.all.1
  have hl := hs.hl
  simp at hl
  subst hl
  have hlen := hs.len w
  simp [Builtin.append_, run_underlying ht, run_underlying hd, sizeOf, typeInfo, hi]
  cases d <;> first | (exact absurd rfl (hdn _)) | (cases b <;> simp [hlen, hc, hf, storeCells])
theorem run_app_grow {t t' ty e : TypeId} {i : TypeInfo} {z : Value} (ht : P.underlying t = some (.slice e)) (hi : P.info? e = some i) (hz : i.zero = some z) {n : Nat} {y : Value} {news : List Value} (hs : Src P w t' i.size n y news)
    {x : Option Addr} {sLen sCap : Nat} {olds : List Value} (hold : (Builtin.firstCells i.size sLen (.slice x sLen sCap)).run P w.drew = .ok olds.toArray w.drew) (hgr : sCap < sLen + n) (h63 : ((sLen + n : Nat) : Int) ≤ 9223372036854775807) (hfit : Builtin.nextslicecap (sLen + n) sCap * i.bytes ≤ 281474976710656) :
    (Builtin.append_ #[t, t'] ty #[.slice x sLen sCap, y]).run P w =
      .ok (.slice (some ⟨w.heap.size, 0, none⟩) (sLen + n) (grownCap w (sLen + n) sCap e))
        (w.drew.alloc (.cells ((olds ++ news).toArray ++ Builtin.zeroCells z.cells (grownCap w (sLen + n) sCap e - (sLen + n))) e)) := by
  obtain ⟨d, hd, hdn⟩ := hs.ty
  have hf := hs.all.2
  have hlen := hs.len w
  have hn : ¬ (sLen + n ≤ sCap) := by omega
  have h63' : ¬ (9223372036854775807 < ((sLen : Int) + (n : Int))) := by omega
  have h48' : ¬ (281474976710656 < Builtin.nextslicecap (sLen + n) sCap * i.bytes) := by omega
  simp [Builtin.append_, run_underlying ht, run_underlying hd, sizeOf, typeInfo, hi]
  cases d <;> first | (exact absurd rfl (hdn _)) | (simp [hlen, zeroValue, typeInfo, hi, hz, hn, h63', h48', Question.forced, hf, hold, newRow, grownCap]; done) | (simp [hlen, zeroValue, typeInfo, hi, hz, hn, h63', h48', Question.forced, hf, hold, newRow, grownCap]; congr 2; apply Array.ext'; simp [List.append_assoc])

theorem Lies.drew {b o : Nat} {vs : List Value} (h : Lies w b o vs) : Lies w.drew b o vs := fun j u hu => h j u hu
/-- a slice that is shown as data: where its elements lie -/
theorem view_row (h : SimX G B ks w0 S0 S bm st a w) {c : Cell} {v : Value} {ow : Own} {els : List (List Cell)} (hc : RepM S w bm st.boxes c v) (hv : viewC st.boxes c = some (.slice ow els)) :
    ∃ x cc, v = .slice x els.length cc ∧ els.length ≤ cc ∧ (els ≠ [] → ∃ b2 o2 e row, x = some ⟨b2, o2, none⟩ ∧ (∀ l ∈ els, l.length = e) ∧ RepL S w els.flatten row ∧ Lies w b2 o2 row) := by
  have hpu0 : c = .slice ow els → ∃ x cc, v = .slice x els.length cc ∧ els.length ≤ cc ∧ (els ≠ [] → ∃ b2 o2 e row, x = some ⟨b2, o2, none⟩ ∧ (∀ l ∈ els, l.length = e) ∧ RepL S w els.flatten row ∧ Lies w b2 o2 row) := fun hce => by
    subst hce
    have hr := hc.pureC rfl
    obtain ⟨x, cc, rfl, h1, h2⟩ := hr.len
    refine ⟨x, cc, rfl, h1, fun hne => ?_⟩
    obtain ⟨b2, o2, c2, e2, row2, hv2, hl2, hm2, he2, hlen2, r2, l2, s2⟩ := hr.unrow hne
    injection hv2 with hv2 _ hv3
    subst hv2 hv3
    exact ⟨b2, o2, e2, row2, rfl, hlen2, r2, l2⟩
  cases c with
  | v x => simp [viewC] at hv
  | slice o els => exact hpu0 (by simpa [viewC] using hv)
  | own e els => simp [viewC] at hv
  | bad => simp [viewC] at hv
  | ms nm ver i n e =>
    simp only [viewC] at hv
    split at hv
    · rename_i b hb
      split at hv <;> simp at hv
      rename_i hcond
      obtain ⟨hver, he0, hle, hpu⟩ := hcond
      obtain ⟨_, rfl⟩ := hv
      cases hc with
      | pure hc => cases hc
      | ms _ _ _ _ _ x c h1 h2 h3 h4 =>
        obtain ⟨b', q1, q2, q3⟩ := h4
        rw [hb] at q1
        injection q1 with q1
        subst q1
        obtain ⟨r1, r2, r3⟩ := q3 hver
        have hlen : ((b.els.drop i).take n).length = n := by simp; omega
        obtain ⟨hes, _, _⟩ := h.boxes nm b hb
        refine ⟨x, c, by rw [hlen], by rw [hlen]; exact h1, fun hne => ?_⟩
        have h0 : 0 < n := by rw [← hlen]; exact List.length_pos_iff.2 hne
        unfold Loc at r3
        split at r3
        · rename_i k C hbm
          obtain ⟨rfl, rfl⟩ := r3 (.inl h0)
          obtain ⟨row, g1, g2⟩ := h.rowOf hb hbm (pureLL_flat hpu)
          exact ⟨k, i * e, e, (row.drop (i * e)).take (n * e), rfl, fun l hl => by rw [← r1]; exact hes l (List.mem_of_mem_drop (List.mem_of_mem_take hl)), by rw [flat_cut (e := e) (by rw [← r1]; exact hes) hle]; exact (g1.drop _).take _, by have := (g2.drop (i * e)).take (n * e); simpa using this⟩
        · omega
    · simp at hv
  | fv nm ver off n e =>
    simp only [viewC] at hv
    split at hv
    · rename_i b hb
      split at hv
      · rename_i cs hels
        split at hv <;> simp at hv
        rename_i hcond
        obtain ⟨hver, he0, hle, hpu⟩ := hcond
        obtain ⟨_, rfl⟩ := hv
        cases hc with
        | pure hc => cases hc
        | fv _ _ _ _ _ x c h1 h2 h3 h4 =>
          obtain ⟨b', q1, q2, q3⟩ := h4
          rw [hb] at q1
          injection q1 with q1
          subst q1
          have r3 := q3 hver
          have hlen : (chunk e n (cs.drop off)).length = n := chunk_length
          refine ⟨x, c, by rw [hlen], by rw [hlen]; exact h1, fun hne => ?_⟩
          have h0 : 0 < n := by rw [← hlen]; exact List.length_pos_iff.2 hne
          obtain ⟨k, C, hbm, rfl⟩ := r3 h0
          have hfl : b.els.flatten = cs := by rw [hels]; simp
          obtain ⟨row, g1, g2⟩ := h.rowOf hb hbm (by rw [hfl]; exact hpu)
          rw [hfl] at g1
          have hle' : n * e ≤ (cs.drop off).length := by simp; omega
          exact ⟨k, off, e, (row.drop off).take (n * e), rfl, chunk_each hle', by rw [chunk_flat hle']; exact (g1.drop _).take _, by have := (g2.drop off).take (n * e); simpa using this⟩
      · simp at hv
    · simp at hv
theorem tail_ok (htt : ∀ t i, tt t = some i → tinfo P t = some i) (h : SimX G B ks w0 S0 S bm st a w) {t' : TypeId} {i' : TI} (hi' : tt t' = some i') {q : PV} {els' : List (List Cell)} (hq : tailOf st.boxes i'.kind q = some els') {size : Nat} (hes : ∀ l ∈ els', l.length = size) (h0 : 0 < size)
    {y : Value} (hy : RepV S w bm st.boxes q y) : ∃ news : List Value, Src P w t' size els'.length y news ∧ RepL S w els'.flatten news := by
  have ht := tinfo_spec (htt _ _ hi')
  cases q with
  | one c =>
    have hc : RepM S w bm st.boxes c y := by
      cases hy with
      | base hy => cases hy with
        | one hy => exact hy
    have hsl : ∀ els o, viewC st.boxes c = some (.slice o els) → els = els' → (∃ e, i'.kind = .slice e) → ∃ news : List Value, Src P w t' size els'.length y news ∧ RepL S w els'.flatten news := by
      rintro els o hv rfl ⟨e, hk⟩
      have hu := ht.slice hk
      obtain ⟨x, cc, rfl, _, hrow⟩ := view_row h hc hv
      rcases Classical.em (els = []) with he | he
      · subst he
        refine ⟨[], ⟨⟨_, hu, by simp⟩, fun w => rfl, fun m hm => ?_, fun m hm => ?_, by simp⟩, .nil⟩
        all_goals
          obtain rfl : m = 0 := by simpa using hm
          cases x <;> simp [Builtin.firstCells, loadCells, loadCellsFrom]
      · obtain ⟨b2, o2, e2, row2, rfl, hlen2, r2, l2⟩ := hrow he
        have hrl : row2.length = els.length * size := by rw [← r2.length, flat_len hes]
        have hfc : ∀ (w' : World), Lies w' b2 o2 row2 → ∀ m, m ≤ els.length → (Builtin.firstCells size m (.slice (some ⟨b2, o2, none⟩) els.length cc)).run P w' = .ok (row2.take (m * size)).toArray w' := by
          intro w' hlw m hm
          have := (hlw.take (m * size)).load (P := P)
          have hml : (row2.take (m * size)).length = m * size := by
            simp only [List.length_take, hrl]
            exact Nat.min_eq_left (Nat.mul_le_mul_right _ hm)
          rw [hml] at this
          simp [Builtin.firstCells, this]
        exact ⟨row2, ⟨⟨_, hu, by simp⟩, fun w => rfl, hfc w l2, hfc w.drew l2.drew, hrl⟩, r2⟩
    have hfin : (∃ e, i'.kind = .slice e) → elsOf st.boxes c = some els' → ∃ news : List Value, Src P w t' size els'.length y news ∧ RepL S w els'.flatten news := by
      intro hk hq
      unfold elsOf at hq
      split at hq <;> simp at hq
      rename_i o els hv
      exact hsl els o hv hq hk
    cases c with
    | v x =>
      cases x with
      | string s =>
        simp only [tailOf] at hq
        split at hq <;> simp at hq
        rename_i hk
        have hu := ht.str hk
        have hs1 : s.data.toList ≠ [] → size = 1 := by
          intro hne
          obtain ⟨b, hb⟩ := List.exists_mem_of_ne_nil _ hne
          have := hes [.v (.int .u8 b.toNat)] (by rw [← hq]; exact List.mem_map.2 ⟨b, hb, rfl⟩)
          simpa using this.symm
        have hyv : y = .string s := by have := hc.pureC rfl; cases this; rfl
        subst hyv
        have hlen : els'.length = s.size := by rw [← hq]; simp
        have hlen' : s.data.toList.length = s.size := by simp
        refine ⟨s.data.toList.map (fun b => Value.int .u8 b.toNat), ⟨⟨_, hu, by simp⟩, fun w => by rw [hlen]; rfl, fun m hm => ?_, fun m hm => ?_, ?_⟩, ?_⟩
        · rcases Classical.em (s.data.toList = []) with he | he
          · have : s.size = 0 := by rw [← hlen', he]; rfl
            obtain rfl : m = 0 := by omega
            simp [Builtin.firstCells]
          · rw [hs1 he]
            simp only [Builtin.firstCells, Sem.run_pure, Nat.mul_one]
            congr 1
            apply Array.ext'
            simp [ByteArray.data_extract]
        · rcases Classical.em (s.data.toList = []) with he | he
          · have : s.size = 0 := by rw [← hlen', he]; rfl
            obtain rfl : m = 0 := by omega
            simp [Builtin.firstCells]
          · rw [hs1 he]
            simp only [Builtin.firstCells, Sem.run_pure, Nat.mul_one]
            congr 1
            apply Array.ext'
            simp [ByteArray.data_extract]
        · rcases Classical.em (s.data.toList = []) with he | he
          · rw [hlen, ← hlen', he]; simp
          · rw [hs1 he, hlen, ← hlen']; simp
        · rw [← hq]
          clear hq hes hs1 hlen hlen'
          induction s.data.toList with
          | nil => exact .nil
          | cons b l ih => exact .cons (.v _ rfl (by simp)) ih
      | _ =>
        simp only [tailOf] at hq
        split at hq
        · rename_i e hk; exact hfin ⟨e, hk⟩ hq
        · simp at hq
    | _ =>
      simp only [tailOf] at hq
      split at hq
      · rename_i e hk; exact hfin ⟨e, hk⟩ hq
      · simp at hq
  | _ => simp [tailOf] at hq
end
end Go.Av
end
section
namespace Go.Av
open Go.RowKit
set_option linter.unusedVariables false
section
variable {P : Program} {tt : TT} {T : Tab} {G : Glob} {B : Nat} {ks : List Nat} {w0 : World} {S0 S S' : Nat → Nat → Prop} {bm bm' : BM} {bx : Boxes} {st st' : ASt} {a : Act} {w w' : World} {Q : Exit → Act → World → Prop} {o : Oper}

theorem setBs_append : ∀ (l m : List (Nat × Box)) (bx : Boxes), setBs bx (l ++ m) = setBs (setBs bx l) m
  | [], m, bx => rfl
  | (n, b) :: l, m, bx => setBs_append l m _
theorem frzL_names : ∀ {l : List Nat}, ∀ x ∈ frzL bx l, x.1 ∈ l
  | [], x, hx => by simp [frzL] at hx
  | nm :: l, x, hx => by
    simp only [frzL] at hx
    split at hx
    · simp at hx
      rcases hx with rfl | hx
      · simp
      · exact List.mem_cons_of_mem _ (frzL_names x hx)
    · exact List.mem_cons_of_mem _ (frzL_names x hx)
theorem getB_frz {l : List Nat} {m : Nat} (h : m ∉ l) : getB (setBs bx (frzL bx l)) m = getB bx m := getB_setBs fun x hx he => h (he ▸ frzL_names x hx)

theorem alloc_ok (htt : ∀ t i, tt t = some i → tinfo P t = some i) (h : SimX G B ks w0 S0 S bm st a w) {t : TypeId} {u : Upd} (ho : o.op = .alloc t) (hu : eff tt T G o st.get st.boxes = some u) : o.wp P a w (Sim G B ks w0 S0 (u.app st)) Q := by
  unfold eff at hu
  rw [ho] at hu
  simp only at hu
  split at hu
  · rename_i i d hi hd
    split at hu <;> simp at hu
    rename_i hz
    subst hu
    have ht := tinfo_spec (htt _ _ hi)
    obtain ⟨z, hz1, hz2⟩ := ht.zero w
    have hrun : (execOp a.eval o).run P w = .ok (.value (.pointer (some ⟨w.heap.size, 0, none⟩))) (w.alloc (.cells (i.zero.map Zc.val).toArray t)) := by
      have : z.cells = (i.zero.map Zc.val).toArray := by apply Array.ext'; simpa using hz2
      simp [execOp, ho, Instr.alloc, hz1, newVar, newRow, this]
    have hs := h.newBox (rw' := false) d (e := i.size) (C := 1) (els := [i.zero.map Zc.cell]) (NewBlk.alloc w (i.zero.map Zc.val).toArray t) (by simpa using hz.1) (by simp) (by unfold maxLen; omega) (by simp [hz.1]) (fun _ => rfl) hz.2 (fun j c v hc hv => by
      obtain ⟨v', h1, h2⟩ := (zero_rep S w i.zero).get (i := j) (a := c) (by simpa using hc)
      have : v' = v := by rw [List.getElem?_toArray, h1] at hv; simpa using hv
      subst this
      exact .pure h2)
    refine wp_value hrun ⟨S, (fun m => if m = d then some (w.heap.size, 1) else bm m), ?_⟩
    rw [hd]
    have := hs.put d (p := .ptr d (newVer st.boxes d) 0 0 i.size) (v := .pointer (some ⟨w.heap.size, 0, none⟩)) (.base (by
      have := RepB.ptr (S := S) (w := w.alloc (.cells (i.zero.map Zc.val).toArray t)) (bm := fun m => if m = d then some (w.heap.size, 1) else bm m) (bx := setB st.boxes d ⟨newVer st.boxes d, i.size, [i.zero.map Zc.cell], false, false⟩) d (newVer st.boxes d) 0 0 i.size w.heap.size ⟨_, getB_self, Nat.le_refl _, fun _ => ⟨.inl rfl, 1, by simp⟩⟩
      simpa using this))
    exact this
  · simp at hu
theorem cells_rep (h : SimX G B ks w0 S0 S bm st a w) {x : Operand} {p : PV} {cs : List Cell} (hp : rd G st.get x = some p) (hcs : p.cells = some cs) : All2 (RepM S w bm st.boxes) cs (a.eval x).cells.toList := by
  cases p with
  | one c =>
    simp [PV.cells] at hcs
    subst hcs
    have hc := h.evalC hp
    have h1 := hc.one
    generalize a.eval x = v at hc h1 ⊢
    have : v.cells.toList = [v] := by cases v <;> simp_all [Value.cells, Value.oneCell']
    rw [this]
    exact .cons hc .nil
  | agg ds =>
    simp [PV.cells] at hcs
    subst hcs
    have hb := h.evalB hp (by simp)
    generalize a.eval x = v at hb ⊢
    cases hb with
    | agg hb => simpa [Value.cells] using hb
  | _ => simp [PV.cells] at hcs
theorem box_ok (h : SimX G B ks w0 S0 S bm st a w) {t : TypeId} {x : Operand} {u : Upd} (ho : o.op = .box t x) (hu : eff tt T G o st.get st.boxes = some u) : o.wp P a w (Sim G B ks w0 S0 (u.app st)) Q := by
  unfold eff at hu
  rw [ho] at hu
  simp only at hu
  split at hu
  · rename_i p d hp hd
    split at hu
    case h_2 => simp at hu
    rename_i cs hcs
    split at hu <;> simp at hu
    rename_i hdn
    subst hu
    have hrep := cells_rep h hp hcs
    have hrun : (execOp a.eval o).run P w = .ok (.value (.pointer (some ⟨w.heap.size, 0, none⟩))) (w.alloc (.cells (a.eval x).cells.toList.toArray t)) := by
      simp [execOp, ho, Instr.box, newVar, newRow]
    have hs := h.newBox (rw' := false) d (e := cs.length) (C := 1) (els := [cs]) (NewBlk.alloc w (a.eval x).cells.toList.toArray t) (by simp) (by simp) (by unfold maxLen; omega) (by have := hrep.length; simp at this; simp [this]) (fun _ => rfl) hdn (fun j c v hc hv => by
      obtain ⟨v', h1, h2⟩ := hrep.get (i := j) (a := c) (by simpa using hc)
      have : v' = v := by rw [List.getElem?_toArray, h1] at hv; simpa using hv
      subst this
      exact h2)
    refine wp_value hrun ⟨S, (fun m => if m = d then some (w.heap.size, 1) else bm m), ?_⟩
    rw [hd]
    have := hs.put d (p := .ptr d (newVer st.boxes d) 0 0 cs.length) (v := .pointer (some ⟨w.heap.size, 0, none⟩)) (.base (by
      have := RepB.ptr (S := S) (w := w.alloc (.cells (a.eval x).cells.toList.toArray t)) (bm := fun m => if m = d then some (w.heap.size, 1) else bm m) (bx := setB st.boxes d ⟨newVer st.boxes d, cs.length, [cs], false, false⟩) d (newVer st.boxes d) 0 0 cs.length w.heap.size ⟨_, getB_self, Nat.le_refl _, fun _ => ⟨.inl rfl, 1, by simp⟩⟩
      simpa using this))
    exact this
  · simp at hu

theorem put_get {F ds : List Cell} {p i : Nat} (hle : p + ds.length ≤ F.length) : (putCells F p ds)[i]? = if p ≤ i ∧ i < p + ds.length then ds[i - p]? else F[i]? := by
  unfold putCells
  have hm : min p F.length = p := by omega
  simp only [List.getElem?_append, List.length_append, List.length_take, hm]
  by_cases h1 : i < p
  · rw [if_pos (by omega), if_pos h1, if_neg (by omega), List.getElem?_take_of_lt h1]
  · by_cases h2 : i < p + ds.length
    · rw [if_pos h2, if_neg h1, if_pos ⟨by omega, h2⟩]
    · rw [if_neg h2, if_neg (by omega), List.getElem?_drop, show p + ds.length + (i - (p + ds.length)) = i by omega]
theorem put_len {F ds : List Cell} {p : Nat} (hle : p + ds.length ≤ F.length) : (putCells F p ds).length = F.length := by
  unfold putCells
  simp
  omega
/-- some cells of a variable are written -/
theorem SimX.writeP (h : SimX G B ks w0 S0 S bm st a w) {nm k C : Nat} {b : Box} (hb : getB st.boxes nm = some b) (hk : bm nm = some (k, C)) (hf : b.frz = false) {els' : List (List Cell)} {off : Nat} {ds : List Cell} {us : List Value}
    (hes : ∀ l ∈ els', l.length = b.e) (hlen : els'.length = b.els.length) (hr : All2 (RepM S w bm st.boxes) ds us) (hle : off + ds.length ≤ b.els.flatten.length) (hfl : els'.flatten = putCells b.els.flatten off ds) :
    ∃ w', (storeCells ⟨k, off, none⟩ us).run P w = .ok () w' ∧ SimX G B ks w0 S0 S bm ⟨st.env, setB st.boxes nm { b with els := els' }⟩ a w' := by
  have hl := hr.length
  refine h.write hb hk hf hes hlen (fun v hv => ?_) (by omega) (fun i c hc => ?_)
  · obtain ⟨j, hj⟩ := List.getElem?_of_mem hv
    have hjl : j < ds.length := by have := getElem_pos hj; omega
    obtain ⟨v', hv', hcv⟩ := hr.get (i := j) (a := ds[j]) (by simp [hjl])
    rw [hj] at hv'
    injection hv' with hv'
    subst hv'
    exact hcv.one
  · rw [hfl, put_get hle] at hc
    rw [← hl]
    split at hc
    · rename_i hin
      rw [if_pos hin]
      intro v hv
      obtain ⟨v', hv', hcv⟩ := hr.get hc
      rw [hv] at hv'
      injection hv' with hv'
      subst hv'
      exact hcv
    · rename_i hin
      rw [if_neg hin]
      exact hc
theorem flat_set {els : List (List Cell)} {e k : Nat} {l l' : List Cell} (hes : ∀ l ∈ els, l.length = e) (hl : els[k]? = some l) : (els.set k l').flatten = els.flatten.take (k * e) ++ l' ++ els.flatten.drop (k * e + e) := by
  induction els generalizing k with
  | nil => simp at hl
  | cons x els ih =>
    have hx := hes x (by simp)
    cases k with
    | zero =>
      simp at hl
      subst hl
      simp only [List.set_cons_zero, List.flatten_cons, Nat.zero_mul, List.take_zero, List.nil_append, Nat.zero_add]
      rw [List.drop_left' hx]
    | succ k =>
      simp at hl
      simp only [List.set_cons_succ, List.flatten_cons, ih (fun l hl => hes l (by simp [hl])) hl]
      have e1 : (k + 1) * e = e + k * e := by rw [Nat.add_mul]; omega
      rw [e1, List.take_append, List.drop_append]
      have h2 : x.take (e + k * e) = x := List.take_of_length_le (by omega)
      have h3 : x.drop (e + k * e + e) = [] := List.drop_of_length_le (by omega)
      rw [h2, h3, hx]
      have h4 : e + k * e - e = k * e := by omega
      have h5 : e + k * e + e - e = k * e + e := by omega
      rw [h4, h5]
      simp
theorem flat_put {els : List (List Cell)} {e k off : Nat} {l ds : List Cell} (hes : ∀ l ∈ els, l.length = e) (hl : els[k]? = some l) (hle : off + ds.length ≤ l.length) : (els.set k (putCells l off ds)).flatten = putCells els.flatten (k * e + off) ds := by
  have hk := getElem_pos hl
  have hll := hes l (List.mem_of_getElem? hl)
  have hfl := flat_len hes
  have hkk : k * e + e ≤ els.flatten.length := by
    have : (k + 1) * e ≤ els.length * e := Nat.mul_le_mul_right _ hk
    rw [Nat.add_mul] at this
    omega
  apply List.ext_getElem?
  intro i
  rw [flat_set hes hl, put_get (by omega)]
  have hseg : ∀ j, j < e → els.flatten[k * e + j]? = l[j]? := fun j hj => flat_get hes hl hj
  have hpl : (putCells l off ds).length = e := by rw [put_len hle, hll]
  have hm : min (k * e) els.flatten.length = k * e := by omega
  simp only [List.getElem?_append, List.length_append, List.length_take, hm, hpl]
  by_cases h1 : i < k * e
  · rw [if_pos (by omega), if_pos h1, List.getElem?_take_of_lt h1, if_neg (by omega)]
  · by_cases h2 : i < k * e + e
    · rw [if_pos h2, if_neg h1, put_get hle]
      by_cases h3 : off ≤ i - k * e ∧ i - k * e < off + ds.length
      · rw [if_pos h3, if_pos (by omega), show i - (k * e + off) = i - k * e - off by omega]
      · rw [if_neg h3, if_neg (by omega), ← hseg _ (by omega), show k * e + (i - k * e) = i by omega]
    · rw [if_neg h2, List.getElem?_drop, if_neg (by omega), show k * e + e + (i - (k * e + e)) = i by omega]

theorem store_ok (htt : ∀ t i, tt t = some i → tinfo P t = some i) (h : SimX G B ks w0 S0 S bm st a w) {t : TypeId} {x y : Operand} {u : Upd} (ho : o.op = .store t x y) (hu : eff tt T G o st.get st.boxes = some u) : o.wp P a w (Sim G B ks w0 S0 (u.app st)) Q := by
  unfold eff at hu
  rw [ho] at hu
  simp only at hu
  split at hu
  · rename_i i nm ver k off e p hi hx hy
    split at hu
    · rename_i b ds hb hds
      split at hu
      · rename_i hc
        obtain ⟨hdst, hver, hke, hf⟩ := hc
        split at hu
        · rename_i l hl
          split at hu
          · rename_i hlen
            have hp' := h.evalB hx (by simp)
            have hex : ∀ {w'}, (Instr.storeAt t (a.eval x) (a.eval y)).run P w = .ok () w' → (execOp a.eval o).run P w = .ok .skip w' := by
              intro w' hv
              simp [execOp, ho, hv]
            have hrep := cells_rep h hy hds
            have hsz : (a.eval y).cells.size = i.size := by rw [← hlen.1, hrep.length]; simp
            obtain ⟨hes, _, _⟩ := h.boxes nm b hb
            have hll := hes l (List.mem_of_getElem? hl)
            have hkl := getElem_pos hl
            have hfl := flat_len hes
            have hkk : k * b.e + b.e ≤ b.els.flatten.length := by
              have : (k + 1) * b.e ≤ b.els.length * b.e := Nat.mul_le_mul_right _ hkl
              rw [Nat.add_mul] at this
              omega
            generalize a.eval x = vx at hp' hex
            cases hp' with
            | ptr _ _ _ _ _ kk hk =>
              obtain ⟨b', q1, q2, q3⟩ := hk
              rw [hb] at q1
              injection q1 with q1
              subst q1
              obtain ⟨_, C, hbm⟩ := q3 hver
              have hek : k * e = k * b.e := by
                rcases hke with rfl | h'
                · simp
                · rw [h']
              have hrun : ∀ {w'}, (storeCells ⟨kk, k * b.e + off, none⟩ (a.eval y).cells.toList).run P w = .ok () w' → (execOp a.eval o).run P w = .ok .skip w' := by
                intro w' hw
                refine hex ?_
                rw [hek]
                simp [Instr.storeAt, Instr.sureAddr, storeVar, (tinfo_spec (htt _ _ hi)).run_size, hsz, hw]
              split at hu
              · split at hu
                · rename_i us hus
                  split at hu <;> simp at hu
                  rename_i hnn
                  simp at hnn
                  subst hu
                  have hfz := SimX.freeze (nmL ds) h (viewL_box hus) (by simpa using hnn.2)
                  have hvl := viewL_ok h hrep hus (l := nmL ds) (fun _ h => h)
                  have hul := (viewL_pure hus).2
                  have hb' : getB (setBs st.boxes (frzL st.boxes (nmL ds))) nm = some b := by rw [getB_frz hnn.1]; exact hb
                  obtain ⟨w', hw1, hw2⟩ := hfz.writeP (P := P) (els' := b.els.set k (putCells l off us)) (off := k * b.e + off) (ds := us) hb' hbm hf
                    (fun m hm => by
                      rcases List.mem_or_eq_of_mem_set hm with h' | rfl
                      · exact hes m h'
                      · rw [put_len (by omega), hll]) (by simp) (RepL.toM hvl) (by omega) (flat_put hes hl (by omega))
                  refine wp_skip' (hrun hw1) ⟨orS S (Lent bm st.boxes (nmL ds)), bm, ?_⟩
                  rw [hdst]
                  simp only [Upd.app, setAll, setBs_append, setBs, Act.put]
                  exact hw2
                · simp at hu
              · simp at hu
                subst hu
                obtain ⟨w', hw1, hw2⟩ := h.writeP (P := P) (els' := b.els.set k (putCells l off ds)) (off := k * b.e + off) (ds := ds) hb hbm hf
                  (fun m hm => by
                    rcases List.mem_or_eq_of_mem_set hm with h' | rfl
                    · exact hes m h'
                    · rw [put_len (by omega), hll]) (by simp) hrep (by omega) (flat_put hes hl (by omega))
                refine wp_skip' (hrun hw1) ⟨S, bm, ?_⟩
                rw [hdst]
                exact hw2
          · simp at hu
        · simp at hu
      · simp at hu
    · simp at hu
  · simp at hu
end
end Go.Av
end
section
namespace Go.Av
open Go.RowKit
set_option linter.unusedVariables false
section
variable {P : Program} {tt : TT} {T : Tab} {G : Glob} {B : Nat} {ks : List Nat} {w0 : World} {S0 S S' : Nat → Nat → Prop} {bm bm' : BM} {bx : Boxes} {st st' : ASt} {a : Act} {w w' : World} {Q : Exit → Act → World → Prop} {o : Oper}

theorem viewEls_ok (h : SimX G B ks w0 S0 S bm st a w) {l : List Nat} : ∀ {ps : List (Nat × PV)} {vs : List (Nat × Value)} {els : List (List Cell)},
    All2 (fun (p : Nat × PV) (v : Nat × Value) => p.1 = v.1 ∧ ∀ cs, p.2.cells = some cs → All2 (RepM S w bm st.boxes) cs v.2.cells.toList) ps vs → viewEls st.boxes ps = some els → (∀ nm ∈ nmPs ps, nm ∈ l) →
    RepL (orS S (Lent bm st.boxes l)) w els.flatten (vs.map (·.2.cells.toList)).flatten ∧ els.length = ps.length ∧ (∀ s, (∀ l ∈ els, l.length = s) → ∀ v ∈ vs.map (·.2), v.cells.size = s) ∧ ∀ nm ∈ nmPs ps, ∃ b, getB st.boxes nm = some b ∧ pureLL b.els = true := by
  intro ps
  induction ps with
  | nil =>
    intro vs els h hm _
    cases h
    simp [viewEls] at hm
    subst hm
    exact ⟨.nil, rfl, by simp, by simp [nmPs]⟩
  | cons p ps ih =>
    intro vs els h hm hl
    cases h with
    | @cons _ v _ vs h1 h2 =>
      obtain ⟨n, p⟩ := p
      simp only [viewEls] at hm
      split at hm
      · rename_i cs r hc hr
        split at hm <;> simp at hm
        rename_i ds hds
        subst hm
        have hnm : nmP p = nmL cs := by
          cases p <;> simp [PV.cells] at hc
          · subst hc; simp [nmP, nmL]
          · subst hc; rfl
        have hl1 : ∀ nm ∈ nmL cs, nm ∈ l := fun nm hn => hl nm (by simp only [nmPs, List.flatMap_cons, List.mem_append]; left; rw [hnm]; exact hn)
        have hl2 : ∀ nm ∈ nmPs ps, nm ∈ l := fun nm hn => hl nm (by simp only [nmPs, List.flatMap_cons, List.mem_append]; right; exact hn)
        obtain ⟨i1, i2, i3, i4⟩ := ih h2 hr hl2
        have hcs := viewL_ok ‹SimX G B ks w0 S0 S bm st a w› (h1.2 cs hc) hds hl1
        refine ⟨by simpa using All2.append hcs i1, by simp [i2], fun s hs v' hv' => ?_, fun nm hn => ?_⟩
        · simp only [List.map_cons, List.mem_cons] at hv'
          rcases hv' with rfl | hv'
          · rw [← Array.length_toList, ← hcs.length]; exact hs ds (by simp)
          · exact i3 s (fun l hl => hs l (by simp [hl])) v' hv'
        · simp only [nmPs, List.flatMap_cons, List.mem_append] at hn
          rcases hn with hn | hn
          · exact viewL_box hds nm (by rw [hnm] at hn; exact hn)
          · exact i4 nm hn
      · simp at hm
theorem zip_range {vs : List (Nat × Value)} {n : Nat} (h : vs.map (·.1) = List.range n) : vs = ((vs.map (·.2)).zipIdx).map fun x => (x.2, x.1) := by
  apply List.ext_getElem?
  intro i
  have hi := congrArg (fun l => l[i]?) h
  simp only [List.getElem?_map] at hi ⊢
  cases hv : vs[i]? with
  | none => simp [hv]
  | some v =>
    have hlt : i < n := by
      rw [hv] at hi
      rcases Nat.lt_or_ge i n with h' | h'
      · exact h'
      · simp [Nat.not_lt.2 h'] at hi
    rw [hv] at hi
    simp [hlt] at hi
    simp [hv]
    rw [← hi]
theorem fst_eq {R : (Nat × PV) → (Nat × Value) → Prop} {ps : List (Nat × PV)} {vs : List (Nat × Value)} (h : All2 (fun (p : Nat × PV) (v : Nat × Value) => p.1 = v.1 ∧ R p v) ps vs) : vs.map (·.1) = ps.map (·.1) := by
  induction h with
  | nil => rfl
  | cons h _ ih => simp [ih, h.1]
theorem ms_new {d n e C : Nat} {v : Value} {k : Nat} {b : Box} (hb : b.e = e) (hr : b.row = true) (hn : n ≤ C) (hC : C ≤ maxLen) (hbm : bm d = some (k, C)) (hg : getB bx d = some b) : RepM S w bm bx (.ms d b.ver 0 n e) (.slice (some ⟨k, 0, none⟩) n C) := by
  refine .ms _ _ _ _ _ _ _ hn hC (fun _ => ⟨k, by simp⟩) ⟨b, hg, Nat.le_refl _, fun _ => ⟨hb, hr, ?_⟩⟩
  unfold Loc
  rw [hbm]
  exact fun _ => ⟨by simp, by simp⟩

theorem buildSlice_ok (htt : ∀ t i, tt t = some i → tinfo P t = some i) (h : SimX G B ks w0 S0 S bm st a w) {t : TypeId} {len : Nat} {parts : Array (Nat × Operand)} {u : Upd}
    (ho : o.op = .buildSlice t len parts) (hu : eff tt T G o st.get st.boxes = some u) : o.wp P a w (Sim G B ks w0 S0 (u.app st)) Q := by
  unfold eff at hu
  rw [ho] at hu
  simp only at hu
  split at hu
  · rename_i i ps d hi hps hd
    split at hu
    · rename_i e hk
      split at hu
      · rename_i j els hj hels
        split at hu <;> simp at hu
        rename_i hcond
        obtain ⟨hsz, hmax, hzl, hrange, hall, hnd, hfo, hdn⟩ := hcond
        subst hu
        have hparts := rdParts_ok h hps
        obtain ⟨r1, r2, r3, r4⟩ := viewEls_ok h (l := nmPs ps) hparts hels (fun _ h => h)
        have hes : ∀ l ∈ els, l.length = j.size := by simpa using hall
        have hut := (tinfo_spec (htt _ _ hi)).slice hk
        have hje := tinfo_spec (htt _ _ hj)
        obtain ⟨z, hz, hzc⟩ := hje.zero w
        have hzs : z.cells.size = j.size := by rw [← Array.length_toList, hzc]; simpa using hzl
        have hpl : ps.length = len := by have := congrArg List.length hrange; simpa using this
        have hel : els.length = len := r2.trans hpl
        let vs := parts.toList.map fun x => (x.1, a.eval x.2)
        have hvr : vs.map (·.1) = List.range len := (fst_eq hparts).trans hrange
        have hvl : vs.length = len := by have := congrArg List.length hvr; simpa using this
        generalize hrw : (vs.map (·.2.cells.toList)).flatten = row at r1
        have hrl : row.length = len * j.size := by rw [← r1.length, flat_len hes, hel]
        have hrun : (execOp a.eval o).run P w = .ok (.value (.slice (some ⟨w.heap.size, 0, none⟩) len len)) (w.alloc (.cells row.toArray e)) := by
          have hfill := fill_row (s := j.size) (vs.map (·.2)) 0 ((List.range (len * j.size)).map (fun q => z.cells[q % z.cells.size]!)) (r3 _ hes) (by simp [hvl])
          rw [← zip_range hvr] at hfill
          simp only [Nat.zero_mul, List.take_zero, List.nil_append, Nat.zero_add, List.length_map, hvl] at hfill
          rw [List.drop_of_length_le (by simp)] at hfill
          have hrow : ((vs.map (·.2)).map (·.cells.toList)).flatten = (vs.map (·.2.cells.toList)).flatten := by rw [List.map_map]; rfl
          rw [List.append_nil, hrow, hrw] at hfill
          have hm24 : ¬ 16777216 < len * j.size := by omega
          rcases Nat.eq_zero_or_pos len with h0 | h0
          · subst h0
            have hv0 : vs = [] := List.length_eq_zero_iff.1 hvl
            have hpn : parts = #[] := by
              have := congrArg List.length hv0
              simp [vs] at this
              exact this
            have hr0 : row = [] := List.length_eq_zero_iff.1 (by simpa using hrl)
            subst hpn hr0
            simp [execOp, ho, Instr.buildSlice, run_underlying hut, hje.run_size, Instr.fill, newRow]
            congr 2
            exact Array.eq_empty_of_size_eq_zero (by simp)
          · have hz0 : ¬ len * j.size = 0 := by have := Nat.mul_pos h0 hsz; omega
            have hf'' : Instr.fill (fun i => some (i * j.size, j.size)) ((Array.range (len * j.size)).map (fun q => z.cells[q % j.size]!)) (parts.map fun x => (x.1, a.eval x.2)).toList = some row.toArray := by
              rw [← hfill, ← hzs]
              congr 1
              · apply Array.ext'; simp
              · simp [vs]
            simp only [execOp, ho, Instr.buildSlice, Sem.run_bind, run_underlying hut, Result.andThen_ok, hje.run_size, hz, Sem.run_ite]
            simp only [gt_iff_lt, hm24, hz0, if_false]
            simp [hzs]
            simp at hf''
            rw [hf'']
            simp [newRow]
        have hfz := SimX.freeze (nmPs ps) h r4 hfo
        have hnv : newVer (setBs st.boxes (frzL st.boxes (nmPs ps))) d = newVer st.boxes d := by
          unfold newVer
          rw [getB_frz (by simpa using hnd)]
        have hcm : len ≤ maxLen := by unfold maxLen; have : len ≤ len * j.size := Nat.le_mul_of_pos_right _ hsz; omega
        have hs := hfz.newBox (rw' := true) d (e := j.size) (C := len) (els := els) (NewBlk.alloc w row.toArray e) hes (by omega) hcm (by simp [hrl]) (fun h => by simp at h) hdn (fun q c v hc hv => by
          obtain ⟨v', h1, h2⟩ := r1.get hc
          have : v' = v := by rw [List.getElem?_toArray, h1] at hv; simpa using hv
          subst this
          exact .pure h2)
        simp only [hnv] at hs
        refine wp_value hrun ⟨orS S (Lent bm st.boxes (nmPs ps)), (fun m => if m = d then some (w.heap.size, len) else bm m), ?_⟩
        rw [hd]
        have := hs.put d (p := .one (.ms d (newVer st.boxes d) 0 len j.size)) (v := .slice (some ⟨w.heap.size, 0, none⟩) len len) (.base (.one (ms_new (v := undef) (b := ⟨newVer st.boxes d, j.size, els, false, true⟩) rfl rfl (Nat.le_refl _) hcm (by simp) getB_self)))
        simp only [Upd.app, setAll, setBs_append, setBs]
        exact this
      · simp at hu
    · simp at hu
  · simp at hu

theorem made_get {z : Array Value} {n s q : Nat} (hz : z.size = s) (h0 : 0 < s) (hq : q < n * s) : (madeCells z (n * s))[q]? = z[q % s]? := by
  have hlt : q % s < z.size := by rw [hz]; exact Nat.mod_lt _ h0
  simp [madeCells, hq, hz]
  rw [Array.getElem?_eq_getElem hlt]
  simp [getElem!_pos, hlt]
theorem makeSlice_ok (htt : ∀ t i, tt t = some i → tinfo P t = some i) (h : SimX G B ks w0 S0 S bm st a w) {t : TypeId} {lo co : Operand} {u : Upd}
    (ho : o.op = .makeSlice t lo co) (hu : eff tt T G o st.get st.boxes = some u) : o.wp P a w (Sim G B ks w0 S0 (u.app st)) Q := by
  unfold eff at hu
  rw [ho] at hu
  simp only at hu
  split at hu
  · rename_i i p q d hi hp hq hd
    split at hu
    · rename_i e n m hk hn hm
      split at hu
      · rename_i j hj
        split at hu <;> simp at hu
        rename_i hcond
        obtain ⟨hsz, hzl, hnm, hby, h63, hdn⟩ := hcond
        subst hu
        have hut := (tinfo_spec (htt _ _ hi)).slice hk
        obtain ⟨info, dd, z, k1, k2, k3, k4, k5, k6, k7, _⟩ := (tinfo_spec (htt _ _ hj)).ex
        have hzs : z.cells.size = j.size := by rw [← Array.length_toList, zcs_vals k6]; simpa using hzl
        obtain ⟨kn, hvn⟩ := idxOf_spec hn (h.eval hp)
        obtain ⟨km, hvm⟩ := idxOf_spec hm (h.eval hq)
        have hbb : (info.bytes : Int) * (m : Int) ≤ 281474976710656 := by
          have : ((info.bytes * m : Nat) : Int) ≤ 281474976710656 := by rw [k7, Nat.mul_comm]; omega
          rwa [Int.natCast_mul] at this
        have hr := run_make (P := P) w t e info z hut k1 k3 kn km n m (by omega) (by omega) hbb (by omega)
        simp only [Int.toNat_natCast, k4] at hr
        have hrun : (execOp a.eval o).run P w = .ok (.value (.slice (some ⟨w.heap.size, 0, none⟩) n m)) (w.alloc (.cells (madeCells z.cells (m * j.size)) e)) := by
          simp only [execOp, ho, hvn, hvm]
          simp [hr]
        have hml : m ≤ maxLen := by unfold maxLen; omega
        have hflat : ∀ (q : Nat) c, (List.replicate n (j.zero.map Zc.cell)).flatten[q]? = some c → q < n * j.size ∧ (j.zero.map Zc.cell)[q % j.size]? = some c := by
          intro q c hc
          have hlen : (List.replicate n (j.zero.map Zc.cell)).flatten.length = n * j.size := by rw [flat_len (e := j.size) (by simp [hzl])]; simp
          have hq := getElem_pos hc
          rw [hlen] at hq
          refine ⟨hq, ?_⟩
          have hd1 : q / j.size < n := (Nat.div_lt_iff_lt_mul hsz).2 hq
          have := flat_get (els := List.replicate n (j.zero.map Zc.cell)) (e := j.size) (i := q / j.size) (j := q % j.size) (l := j.zero.map Zc.cell) (by simp [hzl]) (by simp [hd1]) (Nat.mod_lt _ hsz)
          rw [Nat.mul_comm, Nat.div_add_mod] at this
          rw [← this]
          exact hc
        have hs := h.newBox (rw' := true) d (e := j.size) (C := m) (els := List.replicate n (j.zero.map Zc.cell)) (NewBlk.alloc w (madeCells z.cells (m * j.size)) e) (by simp [hzl]) (by simpa using hnm) hml (by simp [size_madeCells]) (fun h => by simp at h) hdn (fun q c v hc hv => by
          obtain ⟨h1, h2⟩ := hflat q c hc
          have hqm : q < m * j.size := Nat.lt_of_lt_of_le h1 (Nat.mul_le_mul_right _ hnm)
          rw [made_get hzs hsz hqm] at hv
          obtain ⟨v', h3, h4⟩ := (zero_rep S w j.zero).get h2
          have hzv : z.cells.toList = j.zero.map Zc.val := zcs_vals k6
          have : v' = v := by
            rw [← hzv] at h3
            have h5 : z.cells[q % j.size]? = some v' := by simpa using h3
            rw [h5] at hv
            simpa using hv
          subst this
          exact .pure h4)
        refine wp_value hrun ⟨S, (fun q => if q = d then some (w.heap.size, m) else bm q), ?_⟩
        rw [hd]
        exact hs.put d (p := .one (.ms d (newVer st.boxes d) 0 n j.size)) (v := .slice (some ⟨w.heap.size, 0, none⟩) n m) (.base (.one (ms_new (v := undef) (b := ⟨newVer st.boxes d, j.size, List.replicate n (j.zero.map Zc.cell), false, true⟩) rfl rfl hnm hml (by simp) getB_self)))
      · simp at hu
    · simp at hu
  · simp at hu
end
end Go.Av
end
section
namespace Go.Av
open Go.RowKit
set_option linter.unusedVariables false
theorem grown_le (w : World) (need old : Nat) (e : TypeId) : need ≤ grownCap w need old e := by
  unfold grownCap Question.cut
  exact Nat.le_add_right _ _
section
variable {P : Program} {tt : TT} {T : Tab} {G : Glob} {B : Nat} {ks : List Nat} {w0 : World} {S0 S S' : Nat → Nat → Prop} {bm bm' : BM} {bx : Boxes} {st st' : ASt} {a : Act} {w w' : World} {Q : Exit → Act → World → Prop} {o : Oper}

theorem refs_bump {nm : Nat} {b' : Box} {x : Option (Nat × Nat)} (hv : ∀ b, getB bx nm = some b → b.ver < b'.ver) : RefsLe bm bx (fun m => if m = nm then x else bm m) (setB bx nm b') := by
  intro m b hb
  by_cases hm : nm = m
  · subst hm
    have := hv b hb
    exact ⟨_, getB_self, by omega, fun h => by omega⟩
  · exact ⟨b, by rw [getB_ne hm]; exact hb, Nat.le_refl _, fun _ => ⟨rfl, rfl, by simp [Ne.symm hm]⟩⟩
/-- an empty row without memory -/
theorem SimX.emptyBox (h : SimX G B ks w0 S0 S bm st a w) (nm : Nat) {b' : Box} (hv : ∀ b, getB st.boxes nm = some b → b.ver < b'.ver) (hels : b'.els = []) (hrow : b'.row = true) :
    SimX G B ks w0 S0 S (fun m => if m = nm then none else bm m) ⟨st.env, setB st.boxes nm b'⟩ a w := by
  refine h.change (refs_bump hv) (fun _ _ h => h) (fun _ _ _ => rfl) (Keeps.refl _ _ _) (fun _ _ h => .inl h) h.slt (fun m b hb => ?_) (fun m m' b1 b2 k C C' h1 h2 h3 h4 => ?_)
  · rw [getB_set] at hb
    split at hb
    · rename_i hm
      subst hm
      simp at hb
      subst hb
      refine .inr ⟨by simp [hels], fun _ => by simp [hels, pureLL], ?_⟩
      simp [hels, hrow]
    · rename_i hm
      exact .inl ⟨hb, by simp [Ne.symm hm], fun _ _ _ => ⟨rfl, fun _ h => h⟩⟩
  · by_cases hm : m = nm
    · simp [hm] at h3
    · by_cases hm' : m' = nm
      · simp [hm'] at h4
      · simp only [hm, hm', if_false] at h3 h4
        rw [getB_ne (Ne.symm hm)] at h1
        rw [getB_ne (Ne.symm hm')] at h2
        exact h.inj m m' b1 b2 k C C' h1 h2 h3 h4
theorem ms_empty {d e : Nat} {x : Option Addr} {b : Box} (hb : b.e = e) (hr : b.row = true) (hbm : bm d = none) (hg : getB bx d = some b) : RepM S w bm bx (.ms d b.ver 0 0 e) (.slice x 0 0) := by
  refine .ms _ _ _ _ _ _ _ (Nat.le_refl _) (Nat.zero_le _) (fun h => by omega) ⟨b, hg, Nat.le_refl _, fun _ => ⟨hb, hr, ?_⟩⟩
  unfold Loc
  rw [hbm]
  exact ⟨rfl, rfl⟩

/-- a row in a new block: its elements, and more of them -/
theorem SimX.regrow (h : SimX G B ks w0 S0 S bm st a w) (nm : Nat) {e C : Nat} {els : List (List Cell)} {arr : Array Value} {Ty : TypeId} {b' : Box} (hnb : NewBlk w w' arr Ty) (hv : ∀ b, getB st.boxes nm = some b → b.ver < b'.ver) (hes : ∀ l ∈ b'.els, l.length = b'.e) (hC : b'.els.length ≤ C) (hcm : C ≤ maxLen)
    (hsz : C * b'.e ≤ arr.size) (hpu : b'.frz = true → pureLL b'.els = true) (hone : b'.row = false → C = 1) (hn : nm < 1000000) (hrep : ∀ (i : Nat) c v, b'.els.flatten[i]? = some c → arr[i]? = some v → RepM S w bm st.boxes c v) :
    Sim G B ks w0 S0 ⟨st.env, setB st.boxes nm b'⟩ a w' ∧ ∃ S', SimX G B ks w0 S0 S' (fun m => if m = nm then some (w.heap.size, C) else bm m) ⟨st.env, setB st.boxes nm b'⟩ a w' := by
  have hlt : w.heap.size < w'.heap.size := by rw [hnb.size]; omega
  have hS0 : ∀ o, ¬ S w.heap.size o := fun o hs => Nat.lt_irrefl _ (h.slt _ _ hs)
  have key : ∃ S', SimX G B ks w0 S0 S' (fun m => if m = nm then some (w.heap.size, C) else bm m) ⟨st.env, setB st.boxes nm b'⟩ a w' := by
    refine ⟨fun k o => S k o ∨ (b'.frz = true ∧ k = w.heap.size ∧ o < b'.els.flatten.length), ?_⟩
    refine h.box1 nm b' w.heap.size C (fun b hb => ⟨by have := hv b hb; omega, fun h => by have := hv b hb; omega⟩) (.inl (Nat.le_refl _)) ⟨hnb.os, hnb.tape, hnb.output, by omega⟩ (fun b hb _ => hnb.old b hb) (fun _ _ h => .inl h) (fun o hs => absurd hs (hS0 o)) (fun b o hs => hs.imp id fun hs => ⟨hs.2.1, h.base⟩) hlt ?_
    refine ⟨hes, hpu, ?_⟩
    simp only [if_true]
    refine ⟨.inl ⟨hn, h.base⟩, ⟨arr, Ty, hnb.new, hsz, fun i c v hc hv' => (hrep i c v hc hv').mono (fun _ _ h => .inl h) (fun b o hs => World.cell?_of_block (a := ⟨b, o, none⟩) (hnb.old b (h.slt _ _ hs))) (refs_bump hv)⟩, hC, hcm, fun o hs => ?_, fun hf o ho => .inr ⟨hf, rfl, ho⟩, hone⟩
    rcases hs with hs | hs
    · exact absurd hs (hS0 o)
    · exact ⟨hs.1, hs.2.2⟩
  exact ⟨let ⟨S', h'⟩ := key; ⟨S', _, h'⟩, key⟩

theorem pureL_of {cs : List Cell} {vs : List Value} (h : RepL S w cs vs) : pureL cs = true := by
  induction h with
  | nil => rfl
  | cons h _ ih => simp [pureL, h.pure]; simpa [pureL] using ih
theorem pureLL_of {els : List (List Cell)} (h : pureL els.flatten = true) : pureLL els = true := by
  simp only [pureLL, pureL, List.all_eq_true, List.mem_flatten] at *
  intro l hl x hx
  exact h x ⟨l, hl, hx⟩
theorem next_le {n C b : Nat} (h : n * b ≤ 140737488355328) (hc : C < n) : Builtin.nextslicecap n C * b ≤ 281474976710656 := by
  have h1 : Builtin.nextslicecap n C ≤ 2 * n := by
    unfold Builtin.nextslicecap
    split
    · omega
    · split
      · omega
      · have grow : ∀ r c, c ≤ n + n → c < n → Builtin.growBy n r c ≤ n + n ∨ True := fun _ _ _ _ => .inr trivial
        have key : ∀ r c, 256 ≤ c → c ≤ 2 * n → (c < n → True) → Builtin.growBy n r c ≤ 2 * n := by
          intro r
          induction r with
          | zero => intro c _ h _; exact h
          | succ r ih =>
            intro c h256 hc2 _
            simp only [Builtin.growBy]
            split
            · exact hc2
            · exact ih _ (by omega) (by omega) (fun _ => trivial)
        exact key 4 C (by omega) (by omega) (fun _ => trivial)
  calc Builtin.nextslicecap n C * b ≤ 2 * n * b := Nat.mul_le_mul_right _ h1
    _ = 2 * (n * b) := by rw [Nat.mul_assoc]
    _ ≤ 281474976710656 := by omega

theorem zeros_size {z : Array Value} {n s : Nat} (hz : z.size = s) : (Builtin.zeroCells z n).size = n * s := by simp [Builtin.zeroCells, hz]
theorem arr_app {row : List Value} {z : Array Value} {i : Nat} {v : Value} (hi : i < row.length) (h : (row.toArray ++ z)[i]? = some v) : row[i]? = some v := by
  rw [Array.getElem?_append_left (by simpa using hi)] at h
  simpa using h

/-- elements are put behind those of a row, where there is room -/
theorem SimX.appIn (h : SimX G B ks w0 S0 S bm st a w) {nm k c L : Nat} {b : Box} {els' : List (List Cell)} {arr : Array Value} {Ty : TypeId} {news : List Value} (hb : getB st.boxes nm = some b) (hbm : bm nm = some (k, c)) (ha1 : w.heap[k]? = some (.cells arr Ty (0, 0)))
    (hfn0 : b.els.flatten.length = L) (hB : BoxIn S w bm st.boxes B ks nm k c b) (hes2 : ∀ l ∈ b.els ++ els', l.length = b.e) (hpu2 : b.frz = true → pureLL (b.els ++ els') = true) (hfn : b.frz = true → nm < 1000000)
    (hbump : ∀ b0, getB st.boxes nm = some b0 → b0.ver < (b.ver + 1)) (hroom : b.els.length + els'.length ≤ c) (hrep : RepL S w els'.flatten news)
    (hw' : w.setRow k (arr.toList.take L ++ news ++ arr.toList.drop (L + news.length)).toArray = w') (hle : L + news.length ≤ arr.size) :
    SimX G B ks w0 S0 (fun k' o => S k' o ∨ (b.frz = true ∧ k' = k ∧ o < (b.els ++ els').flatten.length)) (fun m => if m = nm then some (k, c) else bm m) ⟨st.env, setB st.boxes nm { b with ver := b.ver + 1, els := b.els ++ els' }⟩ a w' := by
  have hblk' : w'.heap[k]? = some (.cells (arr.toList.take L ++ news ++ arr.toList.drop (L + news.length)).toArray Ty (0, 0)) := by rw [← hw']; exact setRow_heap w k arr _ Ty _ ha1
  have hother : ∀ b', b' ≠ k → w'.heap[b']? = w.heap[b']? := fun b' hb' => by rw [← hw']; exact setRow_other w k b' _ hb'
  have hold : ∀ q, q < L → w'.cell? ⟨k, q, none⟩ = w.cell? ⟨k, q, none⟩ := by
    intro q hq
    simp only [World.cell?, hblk', ha1]
    have : q < arr.size := by omega
    simp [List.getElem?_append, this, hq]
    omega
  have hSk : ∀ o, S k o → w'.cell? ⟨k, o, none⟩ = w.cell? ⟨k, o, none⟩ := fun o hs => hold o (by have := (hB.free o hs).2; omega)
  have hcellS : ∀ b' o, S b' o → w'.cell? ⟨b', o, none⟩ = w.cell? ⟨b', o, none⟩ := fun b' o hs => by
    by_cases hbk : b' = k
    · subst hbk; exact hSk o hs
    · exact World.cell?_of_block (a := ⟨b', o, none⟩) (hother b' hbk)
  have hfl2 : (b.els ++ els').flatten.length = L + news.length := by rw [List.flatten_append, List.length_append, hfn0, hrep.length]
  obtain ⟨arr', Ty', hb1, hb2, hb3⟩ := hB.blk
  rw [ha1] at hb1
  injection hb1 with hb1
  injection hb1 with hb1 hb4 _
  subst hb1 hb4
  refine h.box1 nm { b with ver := b.ver + 1, els := b.els ++ els' } k c (fun b0 h0 => ⟨Nat.le_of_lt (hbump b0 h0), fun hh => by have := hbump b0 h0; simp only at hh; omega⟩) (.inr ⟨c, b, hbm, hb⟩) ⟨by rw [← hw']; rfl, by rw [← hw']; rfl, by rw [← hw']; rfl, by rw [← hw']; simp [World.setRow]⟩ (fun b' _ hb' => hother b' hb') (fun _ _ h => .inl h) hSk (fun b' o hs => hs.imp id fun hs => ⟨hs.2.1, ?_⟩) (heap_lt hblk') ?_
  · rcases hB.base' with h' | ⟨_, h'⟩
    · exact h'
    · have := hfn hs.1; omega
  · refine ⟨hes2, hpu2, ?_⟩
    simp only [if_true]
    refine ⟨hB.base, ⟨_, Ty, hblk', ?_, fun i cc v hc hv => ?_⟩, by simpa using hroom, hB.cap, fun o hs => ?_, fun hf o ho => .inr ⟨hf, rfl, ho⟩, hB.one⟩
    · simp
      omega
    · refine RepM.mono ?_ (fun _ _ h => .inl h) hcellS (refs_bump hbump)
      have hi2 := getElem_pos hc
      rw [hfl2] at hi2
      rw [List.flatten_append, List.getElem?_append, hfn0] at hc
      have hm : min L arr.size = L := by omega
      simp only [List.getElem?_toArray, List.getElem?_append, List.length_append, List.length_take, Array.length_toList, hm] at hv
      rw [if_pos hi2] at hv
      split at hc
      · rename_i hlt
        rw [if_pos hlt, List.getElem?_take_of_lt hlt] at hv
        exact hb3 i cc v hc (by simpa using hv)
      · rename_i hlt
        rw [if_neg hlt] at hv
        obtain ⟨v', h1, h2⟩ := hrep.get hc
        rw [hv] at h1
        injection h1 with h1
        subst h1
        exact .pure h2
    · rcases hs with hs | hs
      · have h1 := hB.free o hs
        refine ⟨h1.1, ?_⟩
        show o < (b.els ++ els').flatten.length
        rw [hfl2]
        have h3 := h1.2
        omega
      · exact ⟨hs.1, hs.2.2⟩
set_option maxHeartbeats 2000000 in
theorem append_ok (htt : ∀ t i, tt t = some i → tinfo P t = some i) (h : SimX G B ks w0 S0 S bm st a w) {t t' : TypeId} {x y : Operand} {u : Upd}
    (ho : o.op = .call { callee := .builtin .append, args := #[x, y], argTypes := #[t, t'] }) (hu : eff tt T G o st.get st.boxes = some u) : o.wp P a w (Sim G B ks w0 S0 (u.app st)) Q := by
  unfold eff at hu
  rw [ho] at hu
  simp only at hu
  split at hu
  · rename_i i i' p q d hi hi' hp hq hd
    split at hu
    · rename_i e els' hk htl
      split at hu
      · rename_i j hj
        split at hu
        · rename_i hcond
          obtain ⟨hsz, hzl⟩ := hcond
          split at hu <;> simp at hu
          rename_i u0 hu0
          subst hu
          show o.wp P a w (Sim G B ks w0 S0 ⟨setAll st.env u0.slots, setBs st.boxes u0.boxes⟩) Q
          have hut := (tinfo_spec (htt _ _ hi)).slice hk
          obtain ⟨info, dd, z, k1, k2, k3, k4, k5, k6, k7, _⟩ := (tinfo_spec (htt _ _ hj)).ex
          have hzs : z.cells.size = j.size := by rw [← Array.length_toList, zcs_vals k6]; simpa using hzl
          have hex : ∀ {v w'}, (Builtin.append_ #[t, t'] o.type #[a.eval x, a.eval y]).run P w = .ok v w' → (execOp a.eval o).run P w = .ok (.value v) w' := by
            intro v w' hv
            simp only [execOp, ho, resolve, Sem.run_bind, Sem.run_pure, Result.andThen_ok, invoke, builtin]
            simp [hv]
          unfold appendOp at hu0
          split at hu0
          · rename_i els0
            split at hu0 <;> simp at hu0
            rename_i hc
            obtain ⟨hes, hby, hml, hdn⟩ := hc
            subst hu0
            obtain ⟨news, hsrc, hrep⟩ := tail_ok (P := P) htt h hi' htl hes hsz (h.eval hq)
            have hxv := (h.evalC hp).pureC rfl
            generalize a.eval y = vy at hsrc hex
            generalize a.eval x = vx at hxv hex
            cases hxv with
            | nil ax =>
              rcases Nat.eq_zero_or_pos els'.length with h0 | h0
              · have he : els' = [] := List.length_eq_zero_iff.1 h0
                subst he
                have hr := run_app_zero (P := P) (ty := o.type) hut k1 (by rw [k4]; exact hsrc) ax (n := 0) (c := 0) (Nat.le_refl _)
                have hs := h.emptyBox d (b' := ⟨newVer st.boxes d, j.size, [], false, true⟩) (fun b hb => by simp [newVer, hb]) rfl rfl
                refine wp_value (hex hr) ⟨S, (fun m => if m = d then none else bm m), ?_⟩
                rw [hd]
                exact hs.put d (p := .one (.ms d (newVer st.boxes d) 0 0 j.size)) (v := .slice ax 0 0) (.base (.one (ms_empty (b := ⟨newVer st.boxes d, j.size, [], false, true⟩) rfl rfl (by simp) getB_self)))
              · have hr := run_app_grow (P := P) (ty := o.type) hut k1 k3 (by rw [k4]; exact hsrc) (x := ax) (sLen := 0) (sCap := 0) (olds := []) (by cases ax <;> simp [Builtin.firstCells, loadCells, loadCellsFrom]) (by omega) (by unfold maxLen at hml; omega) (by rw [k7]; exact next_le (by simpa using hby) (by omega))
                simp only [Nat.zero_add, List.nil_append] at hr
                have hcap := grown_le w els'.length 0 e
                have hcm : grownCap w els'.length 0 e ≤ maxLen := grownCap_le_maxLen w _ _ _ hml
                have hnl : news.length = els'.length * j.size := hsrc.hl
                have hs := h.newBox (rw' := true) d (e := j.size) (C := grownCap w els'.length 0 e) (els := els') (NewBlk.drew w (news.toArray ++ Builtin.zeroCells z.cells (grownCap w els'.length 0 e - els'.length)) e) hes hcap hcm (by
                  rw [Array.size_append, zeros_size hzs, List.size_toArray, hnl, ← Nat.add_mul, Nat.add_sub_cancel' hcap]; exact Nat.le_refl _) (fun h => by simp at h) hdn (fun i c v hc hv => by
                  have hi2 := getElem_pos hc
                  rw [flat_len hes] at hi2
                  have hv := arr_app (by rw [hnl]; exact hi2) hv
                  obtain ⟨v', h1, h2⟩ := hrep.get hc
                  rw [hv] at h1
                  injection h1 with h1
                  subst h1
                  exact .pure h2)
                refine wp_value (hex hr) ⟨S, (fun m => if m = d then some (w.heap.size, grownCap w els'.length 0 e) else bm m), ?_⟩
                rw [hd]
                exact hs.put d (p := .one (.ms d (newVer st.boxes d) 0 els'.length j.size)) (v := .slice (some ⟨w.heap.size, 0, none⟩) els'.length (grownCap w els'.length 0 e)) (.base (.one (ms_new (v := undef) (b := ⟨newVer st.boxes d, j.size, els', false, true⟩) rfl rfl hcap hcm (by simp) getB_self)))
          · rename_i nm ver n e1
            split at hu0
            · rename_i b hb
              split at hu0 <;> simp at hu0
              rename_i hc
              obtain ⟨hver, hrow, hn, he1, hbe, hes, hby, hml, hfn⟩ := hc
              subst hu0 hver he1
              obtain ⟨news, hsrc, hrep⟩ := tail_ok (P := P) htt h hi' htl hes hsz (h.eval hq)
              have hxv := h.evalC hp
              generalize a.eval y = vy at hsrc hex
              generalize a.eval x = vx at hxv hex
              obtain ⟨hes0, hpu0, hB⟩ := h.boxes nm b hb
              have hnl : news.length = els'.length * j.size := hsrc.hl
              have hes2 : ∀ l ∈ b.els ++ els', l.length = b.e := by
                intro l hl
                rcases List.mem_append.1 hl with hl | hl
                · exact hes0 l hl
                · rw [hbe]; exact hes l hl
              have hpu2 : b.frz = true → pureLL (b.els ++ els') = true := by
                intro hf
                have h1 := hpu0 hf
                have h2 := pureLL_of (pureL_of hrep)
                simp only [pureLL, List.all_append, Bool.and_eq_true] at *
                exact ⟨h1, h2⟩
              have hbump : ∀ b0, getB st.boxes nm = some b0 → b0.ver < (b.ver + 1) := fun b0 h0 => by rw [hb] at h0; injection h0 with h0; subst h0; omega
              cases hxv with
              | pure hxv => cases hxv
              | ms _ _ _ _ _ xa c hnc hcm hxk hro =>
                obtain ⟨b0, q1, q2, q3⟩ := hro
                rw [hb] at q1
                injection q1 with q1
                subst q1
                obtain ⟨_, _, hloc⟩ := q3 rfl
                unfold Loc at hloc
                cases hbm : bm nm with
                | none =>
                  rw [hbm] at hloc hB
                  simp only at hloc hB
                  obtain ⟨hn0, hc0⟩ := hloc
                  have hb0 : b.els = [] := hB.1
                  subst hc0
                  rcases Nat.eq_zero_or_pos els'.length with h0 | h0
                  · have he : els' = [] := List.length_eq_zero_iff.1 h0
                    subst he
                    have hr := run_app_zero (P := P) (ty := o.type) hut k1 (by rw [k4]; exact hsrc) xa (n := n) (c := 0) hnc
                    have hs := h.emptyBox nm (b' := { b with ver := b.ver + 1, els := b.els ++ [] }) hbump (by simp [hb0]) hrow
                    refine wp_value (hex hr) ⟨S, (fun m => if m = nm then none else bm m), ?_⟩
                    rw [hd, hn0]
                    have := hs.put d (p := .one (.ms nm (b.ver + 1) 0 0 b.e)) (v := .slice xa 0 0) (.base (.one (ms_empty (b := { b with ver := b.ver + 1, els := b.els ++ [] }) rfl hrow (by simp) getB_self)))
                    rw [← hbe]
                    exact this
                  · have hr := run_app_grow (P := P) (ty := o.type) hut k1 k3 (by rw [k4]; exact hsrc) (x := xa) (sLen := n) (sCap := 0) (olds := []) (by subst hn0; cases xa <;> simp [Builtin.firstCells, loadCells, loadCellsFrom]) (by omega) (by unfold maxLen at hml; omega) (by rw [k7]; exact next_le hby (by omega))
                    simp only [List.nil_append] at hr
                    have hcap := grown_le w (n + els'.length) 0 e
                    have hcm : grownCap w (n + els'.length) 0 e ≤ maxLen := grownCap_le_maxLen w _ _ _ hml
                    obtain ⟨_, S', hs⟩ := h.regrow nm (b' := { b with ver := b.ver + 1, els := b.els ++ els' }) (e := 0) (els := []) (C := grownCap w (n + els'.length) 0 e) (NewBlk.drew w (news.toArray ++ Builtin.zeroCells z.cells (grownCap w (n + els'.length) 0 e - (n + els'.length))) e) hbump hes2 (by simp; rw [← hn]; exact hcap) hcm (by
                      rw [Array.size_append, zeros_size hzs, List.size_toArray, hnl, hbe, ← Nat.add_mul]
                      have : els'.length + (grownCap w (n + els'.length) 0 e - (n + els'.length)) = grownCap w (n + els'.length) 0 e := by omega
                      rw [this]; exact Nat.le_refl _) hpu2 (fun h => by rw [hrow] at h; simp at h) hfn (fun i c v hc hv => by
                      have hc : els'.flatten[i]? = some c := by simpa [hb0] using hc
                      have hi2 := getElem_pos hc
                      rw [flat_len hes] at hi2
                      have hv := arr_app (by rw [hnl]; exact hi2) hv
                      obtain ⟨v', h1, h2⟩ := hrep.get hc
                      rw [hv] at h1
                      injection h1 with h1
                      subst h1
                      exact .pure h2)
                    refine wp_value (hex hr) ⟨S', (fun m => if m = nm then some (w.heap.size, grownCap w (n + els'.length) 0 e) else bm m), ?_⟩
                    rw [hd]
                    have := hs.put d (p := .one (.ms nm (b.ver + 1) 0 (n + els'.length) b.e)) (v := .slice (some ⟨w.heap.size, 0, none⟩) (n + els'.length) (grownCap w (n + els'.length) 0 e)) (.base (.one (ms_new (v := undef) (b := { b with ver := b.ver + 1, els := b.els ++ els' }) rfl hrow hcap hcm (by simp) getB_self)))
                    rw [← hbe]
                    exact this
                | some kc =>
                  obtain ⟨k, C⟩ := kc
                  rw [hbm] at hloc hB
                  simp only at hloc hB
                  obtain ⟨rfl, hcC⟩ := hloc (.inr trivial)
                  simp only [Nat.sub_zero] at hcC
                  subst hcC
                  obtain ⟨arr, Ty, ha1, ha2, ha3⟩ := hB.blk
                  have hfl0 := flat_len hes0
                  by_cases hroom : n + els'.length ≤ c
                  · have hle : n * j.size + news.length ≤ arr.size := by
                      have : (n + els'.length) * j.size ≤ c * j.size := Nat.mul_le_mul_right _ hroom
                      rw [Nat.add_mul] at this
                      rw [hbe] at ha2
                      omega
                    have hr := run_app_in (P := P) (ty := o.type) hut k1 (by rw [k4]; exact hsrc) (g := k) (off := 0 * b.e) (sLen := n) (sCap := c) ha1 hrep.ones hroom (by rw [k4]; simpa using hle)
                    rw [k4] at hr
                    simp only [Nat.zero_mul, Nat.zero_add] at hr
                    generalize hw' : w.setRow k (arr.toList.take (n * j.size) ++ news ++ arr.toList.drop (n * j.size + news.length)).toArray = w' at hr
                    have hfn0 : b.els.flatten.length = n * j.size := by rw [hfl0, hn, hbe]
                    have hs := h.appIn (els' := els') (news := news) hb hbm ha1 hfn0 hB hes2 hpu2 (fun _ => hfn) hbump (by rw [← hn]; exact hroom) hrep hw' (by omega)
                    refine wp_value (hex (by simpa using hr)) ⟨(fun k' o => S k' o ∨ (b.frz = true ∧ k' = k ∧ o < (b.els ++ els').flatten.length)), (fun m => if m = nm then some (k, c) else bm m), ?_⟩
                    · rw [hd]
                      have := hs.put d (p := .one (.ms nm (b.ver + 1) 0 (n + els'.length) b.e)) (v := .slice (some ⟨k, 0, none⟩) (n + els'.length) c) (.base (.one (ms_new (v := undef) (b := { b with ver := b.ver + 1, els := b.els ++ els' }) rfl hrow hroom hcm (by simp) getB_self)))
                      rw [← hbe]
                      exact this
                  · obtain ⟨vs0, hl0, hl1⟩ : ∃ olds : List Value, Lies w k 0 olds ∧ All2 (RepM S w bm st.boxes) b.els.flatten olds := by
                      refine ⟨arr.toList.take b.els.flatten.length, fun q v hv => ?_, All2.of_get ?_ fun q c v hc hv => ?_⟩
                      · have hq := getElem_pos hv
                        simp [-List.length_flatten] at hq
                        rw [List.getElem?_take_of_lt (by omega)] at hv
                        rw [Nat.zero_add]
                        simp only [World.cell?, ha1]
                        simpa using hv
                      · have : b.els.flatten.length ≤ arr.size := by rw [hfl0]; exact Nat.le_trans (Nat.mul_le_mul_right _ hB.room) ha2
                        simp [-List.length_flatten]
                        omega
                      · have hq := getElem_pos hc
                        rw [List.getElem?_take_of_lt hq] at hv
                        exact ha3 q c v hc (by simpa using hv)
                    have holl : vs0.length = n * j.size := by rw [← hl1.length, hfl0, hn, hbe]
                    have hold : (Builtin.firstCells info.size n (.slice (some ⟨k, 0 * j.size, none⟩) n c)).run P w.drew = .ok vs0.toArray w.drew := by
                      have := hl0.drew.load (P := P)
                      rw [holl] at this
                      simp [Builtin.firstCells, k4, this]
                    have hr := run_app_grow (P := P) (ty := o.type) hut k1 k3 (by rw [k4]; exact hsrc) hold (by omega) (by unfold maxLen at hml; omega) (by rw [k7]; exact next_le hby (by omega))
                    have hcap := grown_le w (n + els'.length) c e
                    have hcm' : grownCap w (n + els'.length) c e ≤ maxLen := grownCap_le_maxLen w _ _ _ hml
                    obtain ⟨_, S', hs⟩ := h.regrow nm (b' := { b with ver := b.ver + 1, els := b.els ++ els' }) (e := 0) (els := []) (C := grownCap w (n + els'.length) c e) (NewBlk.drew w ((vs0 ++ news).toArray ++ Builtin.zeroCells z.cells (grownCap w (n + els'.length) c e - (n + els'.length))) e) hbump hes2 (by simp; rw [← hn]; exact hcap) hcm' (by
                      rw [Array.size_append, zeros_size hzs, List.size_toArray, List.length_append, holl, hnl, hbe, ← Nat.add_mul, ← Nat.add_mul]
                      have : n + els'.length + (grownCap w (n + els'.length) c e - (n + els'.length)) = grownCap w (n + els'.length) c e := by omega
                      rw [this]; exact Nat.le_refl _) hpu2 (fun h => by rw [hrow] at h; simp at h) hfn (fun i cc v hc hv => by
                      have hall : All2 (RepM S w bm st.boxes) (b.els ++ els').flatten (vs0 ++ news) := by rw [List.flatten_append]; exact All2.append hl1 (RepL.toM hrep)
                      have hi2 := getElem_pos hc
                      have hv := arr_app (by have := hall.length; simp only [] at hi2; omega) hv
                      obtain ⟨v', h1, h2⟩ := hall.get hc
                      rw [hv] at h1
                      injection h1 with h1
                      subst h1
                      exact h2)
                    refine wp_value (hex hr) ⟨S', (fun m => if m = nm then some (w.heap.size, grownCap w (n + els'.length) c e) else bm m), ?_⟩
                    rw [hd]
                    have := hs.put d (p := .one (.ms nm (b.ver + 1) 0 (n + els'.length) b.e)) (v := .slice (some ⟨w.heap.size, 0, none⟩) (n + els'.length) (grownCap w (n + els'.length) c e)) (.base (.one (ms_new (v := undef) (b := { b with ver := b.ver + 1, els := b.els ++ els' }) rfl hrow hcap hcm' (by simp) getB_self)))
                    rw [← hbe]
                    exact this
            · simp at hu0
          · simp at hu0
        · simp at hu
      · simp at hu
    · simp at hu
  · simp at hu
end
end Go.Av
end
section
namespace Go.Av
open Go.RowKit
set_option linter.unusedVariables false
section
variable {P : Program} {tt : TT} {T : Tab} {G : Glob} {B : Nat} {ks : List Nat} {w0 : World} {S0 S S' : Nat → Nat → Prop} {bm bm' : BM} {bx : Boxes} {st st' : ASt} {a : Act} {w w' : World} {Q : Exit → Act → World → Prop} {o : Oper}

theorem flat_splice {els ds : List (List Cell)} {e i : Nat} (hes : ∀ l ∈ els, l.length = e) (hds : ∀ l ∈ ds, l.length = e) (hle : i + ds.length ≤ els.length) : (els.take i ++ ds ++ els.drop (i + ds.length)).flatten = putCells els.flatten (i * e) ds.flatten := by
  have e1 : els.flatten = (els.take i).flatten ++ (els.drop i).flatten := by rw [← List.flatten_append, List.take_append_drop]
  have hA : (els.take i).flatten.length = i * e := by rw [flat_len fun l hl => hes l (List.mem_of_mem_take hl)]; congr 1; simp; omega
  have e2 : (els.drop i).flatten = ((els.drop i).take ds.length).flatten ++ (els.drop (i + ds.length)).flatten := by rw [← List.drop_drop, ← List.flatten_append, List.take_append_drop]
  have hB : ((els.drop i).take ds.length).flatten.length = ds.flatten.length := by
    rw [flat_len fun l hl => hes l (List.mem_of_mem_drop (List.mem_of_mem_take hl)), flat_len hds]
    congr 1
    simp
    omega
  unfold putCells
  rw [List.flatten_append, List.flatten_append]
  congr 1
  · congr 1
    rw [e1, List.take_left' hA]
  · have : els.flatten.drop (i * e + ds.flatten.length) = (els.drop (i + ds.length)).flatten := by
      rw [← List.drop_drop]
      conv => lhs; rw [e1]
      rw [List.drop_left' hA, e2, List.drop_left' hB]
    exact this.symm
theorem take_flat {els : List (List Cell)} {s m : Nat} (hes : ∀ l ∈ els, l.length = s) (hm : m ≤ els.length) : (els.take m).flatten = els.flatten.take (m * s) := by
  have := flat_cut (els := els) (i := 0) (n := m) hes (by omega)
  simpa using this
theorem run_copy {t t' ty e : TypeId} {i : TypeInfo} (ht : P.underlying t = some (.slice e)) (hi : P.info? e = some i) {n dl c : Nat} {y : Value} {news : List Value} (hs : Src P w t' i.size n y news) {x : Option Addr} (ts : Array TypeId) (hts : ts = #[t, t'])
    (hst : ∀ ad, x = some ad → (storeCells ad (news.take (min n dl * i.size))).run P w = .ok () w') (hn : x = none → w' = w) : (Builtin.copy_ ts ty #[.slice x dl c, y]).run P w = .ok (.int .i64 (min n dl : Nat)) w' := by
  subst hts
  have hf := hs.cells (min n dl) (Nat.min_le_left _ _)
  have hlen := hs.len w
  have hnm : Nat.min n dl = min n dl := rfl
  cases x with
  | none =>
    have := hn rfl
    subst this
    simp [Builtin.copy_, run_underlying ht, hlen, sizeOf, typeInfo, hi, goInt, hnm, hf]
  | some ad =>
    have := hst ad rfl
    simp [Builtin.copy_, run_underlying ht, hlen, sizeOf, typeInfo, hi, goInt, hnm, hf, this]

theorem copy_ok (htt : ∀ t i, tt t = some i → tinfo P t = some i) (h : SimX G B ks w0 S0 S bm st a w) {t t' : TypeId} {x y : Operand} {u : Upd}
    (ho : o.op = .call { callee := .builtin .copy, args := #[x, y], argTypes := #[t, t'] }) (hu : eff tt T G o st.get st.boxes = some u) : o.wp P a w (Sim G B ks w0 S0 (u.app st)) Q := by
  unfold eff at hu
  rw [ho] at hu
  simp only at hu
  split at hu
  · rename_i i i' c q hi hi' hp hq
    split at hu
    · rename_i e els' hk htl
      split at hu
      · rename_i s hs
        split at hu <;> simp at hu
        rename_i u0 hu0
        subst hu
        show o.wp P a w (Sim G B ks w0 S0 ⟨setAll st.env u0.slots, setBs st.boxes u0.boxes⟩) Q
        have hut := (tinfo_spec (htt _ _ hi)).slice hk
        obtain ⟨ei, hei, hes0⟩ := szOf_spec htt hs
        obtain ⟨info, dd, z, k1, k2, k3, k4, k5, k6, k7, _⟩ := hei.ex
        rw [hes0] at k4
        have hex : ∀ {v w'}, (Builtin.copy_ #[t, t'] o.type #[a.eval x, a.eval y]).run P w = .ok v w' → (execOp a.eval o).run P w = .ok (.value v) w' := by
          intro v w' hv
          simp only [execOp, ho, resolve, Sem.run_bind, Sem.run_pure, Result.andThen_ok, invoke, builtin]
          simp [hv]
        unfold copyOp at hu0
        split at hu0
        · rename_i nm ver i0 n e1
          split at hu0
          · rename_i b hb
            split at hu0
            case isFalse => simp at hu0
            rename_i hc
            obtain ⟨hver, hf, hle, hbe, rfl, h0, hes⟩ := hc
            injection hu0 with hu0
            subst hu0
            obtain ⟨news, hsrc, hrep⟩ := tail_ok (P := P) htt h hi' htl hes h0 (h.eval hq)
            have hxv := h.evalC hp
            generalize a.eval y = vy at hsrc hex
            generalize a.eval x = vx at hxv hex
            obtain ⟨hesb, _, _⟩ := h.boxes nm b hb
            cases hxv with
            | pure hxv => cases hxv
            | ms _ _ _ _ _ xa cc hnc hcm hxk hro =>
              obtain ⟨b0, q1, q2, q3⟩ := hro
              rw [hb] at q1
              injection q1 with q1
              subst q1
              obtain ⟨_, _, hloc⟩ := q3 hver
              have hml : (els'.take (min els'.length n)).length = min els'.length n := by rw [List.length_take]; omega
              have hel : b.els.take i0 ++ els'.take (min els'.length n) ++ b.els.drop (i0 + min els'.length n) = b.els.take i0 ++ els'.take (min els'.length n) ++ b.els.drop (i0 + (els'.take (min els'.length n)).length) := by rw [hml]
              rcases Nat.eq_zero_or_pos (min els'.length n) with hm0 | hm0
              · have hr := run_copy (P := P) (ty := o.type) (w' := w) hut k1 (by rw [k4]; exact hsrc) (x := xa) (dl := n) (c := cc) #[t, t'] rfl (fun ad _ => by rw [hm0]; simp [storeCells]) (fun _ => rfl)
                have hsame : (⟨b.ver, b.e, b.els.take i0 ++ els'.take (min els'.length n) ++ b.els.drop (i0 + min els'.length n), b.frz, b.row⟩ : Box) = b := by
                  rw [hm0]
                  simp
                have hset : ∀ {l : Boxes}, getB l nm = some b → ∀ nm', getB (setB l nm b) nm' = getB l nm' := fun hl nm' => by
                  rw [getB_set]
                  split
                  · rename_i he; rw [← he, hl]
                  · rfl
                refine wp_value (hex hr) ⟨S, bm, ?_⟩
                have h2 : SimX G B ks w0 S0 S bm ⟨st.env, setB st.boxes nm b⟩ a w := h.change (fun m b1 hb1 => ⟨b1, by rw [hset hb]; exact hb1, Nat.le_refl _, fun _ => ⟨rfl, rfl, rfl⟩⟩) (fun _ _ h => h) (fun _ _ _ => rfl) (Keeps.refl _ _ _) (fun _ _ h => .inl h) h.slt (fun m b1 hb1 => .inl ⟨by rw [hset hb] at hb1; exact hb1, rfl, fun _ _ _ => ⟨rfl, fun _ h => h⟩⟩) (fun m m' b1 b2 k C C' h1 h2 => by rw [hset hb] at h1 h2; exact h.inj m m' b1 b2 k C C' h1 h2)
                have := h2.putDst o.dst (p := .one (.v (.int .i64 (min els'.length n : Nat)))) (v := .int .i64 (min els'.length n : Nat)) (.base (.one (.pure (.v _ rfl (by simp)))))
                simp only [setBs, hsame]
                exact this
              · have hn0 : 0 < n := by omega
                unfold Loc at hloc
                split at hloc
                · rename_i k C hbm
                  obtain ⟨rfl, rfl⟩ := hloc (.inl hn0)
                  have hds : ∀ l ∈ els'.take (min els'.length n), l.length = b.e := fun l hl => by rw [hbe]; exact hes l (List.mem_of_mem_take hl)
                  have hfl := flat_splice (els := b.els) (ds := els'.take (min els'.length n)) (i := i0) hesb hds (by rw [hml]; omega)
                  rw [← hel] at hfl
                  have hrep' : RepL S w (els'.take (min els'.length n)).flatten (news.take (min els'.length n * e1)) := by rw [take_flat hes (Nat.min_le_left _ _)]; exact hrep.take _
                  obtain ⟨w', hw1, hw2⟩ := h.writeP (P := P) (off := i0 * b.e) hb hbm hf (els' := b.els.take i0 ++ els'.take (min els'.length n) ++ b.els.drop (i0 + min els'.length n))
                    (fun l hl => by
                      simp only [List.mem_append] at hl
                      rcases hl with (hl | hl) | hl
                      · exact hesb l (List.mem_of_mem_take hl)
                      · exact hds l hl
                      · exact hesb l (List.mem_of_mem_drop hl)) (by simp; omega) (RepL.toM hrep') (by
                      rw [flat_len hesb, flat_len hds, hml, ← Nat.add_mul]
                      exact Nat.mul_le_mul_right _ (by omega)) hfl
                  rw [hbe] at hw1
                  have hr := run_copy (P := P) (ty := o.type) (w' := w') hut k1 (by rw [k4]; exact hsrc) (x := some ⟨k, i0 * e1, none⟩) (dl := n) (c := C - i0) #[t, t'] rfl (fun ad had => by injection had with had; subst had; rw [k4]; exact hw1) (fun h => by simp at h)
                  refine wp_value (hex hr) ⟨S, bm, ?_⟩
                  have := hw2.putDst o.dst (p := .one (.v (.int .i64 (min els'.length n : Nat)))) (v := .int .i64 (min els'.length n : Nat)) (.base (.one (.pure (.v _ rfl (by simp)))))
                  exact this
                · omega
          · simp at hu0
        · rename_i nm ver off n e1
          split at hu0
          · rename_i b hb
            split at hu0
            · rename_i cs hcs
              split at hu0 <;> simp at hu0
              rename_i hc
              obtain ⟨hver, hf, hle, rfl, h0, hes⟩ := hc
              subst hu0
              obtain ⟨news, hsrc, hrep⟩ := tail_ok (P := P) htt h hi' htl hes h0 (h.eval hq)
              have hxv := h.evalC hp
              generalize a.eval y = vy at hsrc hex
              generalize a.eval x = vx at hxv hex
              obtain ⟨hesb, _, _⟩ := h.boxes nm b hb
              have hml : (els'.take (min els'.length n)).length = min els'.length n := by rw [List.length_take]; omega
              have hds : ∀ l ∈ els'.take (min els'.length n), l.length = e1 := fun l hl => hes l (List.mem_of_mem_take hl)
              have hdl : (els'.take (min els'.length n)).flatten.length = min els'.length n * e1 := by rw [flat_len hds, hml]
              have hmn : min els'.length n * e1 ≤ n * e1 := Nat.mul_le_mul_right _ (Nat.min_le_right _ _)
              have hbcs : b.e = cs.length := (hesb cs (by simp [hcs])).symm
              cases hxv with
              | pure hxv => cases hxv
              | fv _ _ _ _ _ xa cc hnc hcm hxk hro =>
                obtain ⟨b0, q1, q2, q3⟩ := hro
                rw [hb] at q1
                injection q1 with q1
                subst q1
                have hloc := q3 hver
                rcases Nat.eq_zero_or_pos (min els'.length n) with hm0 | hm0
                · have hr := run_copy (P := P) (ty := o.type) (w' := w) hut k1 (by rw [k4]; exact hsrc) (x := xa) (dl := n) (c := cc) #[t, t'] rfl (fun ad _ => by rw [hm0]; simp [storeCells]) (fun _ => rfl)
                  have hsame : (⟨b.ver, b.e, [putCells cs off (els'.take (min els'.length n)).flatten], b.frz, b.row⟩ : Box) = b := by
                    rw [hm0]
                    simp [putCells, ← hcs]
                  have hset : ∀ {l : Boxes}, getB l nm = some b → ∀ nm', getB (setB l nm b) nm' = getB l nm' := fun hl nm' => by
                    rw [getB_set]
                    split
                    · rename_i he; rw [← he, hl]
                    · rfl
                  refine wp_value (hex hr) ⟨S, bm, ?_⟩
                  have h2 : SimX G B ks w0 S0 S bm ⟨st.env, setB st.boxes nm b⟩ a w := h.change (fun m b1 hb1 => ⟨b1, by rw [hset hb]; exact hb1, Nat.le_refl _, fun _ => ⟨rfl, rfl, rfl⟩⟩) (fun _ _ h => h) (fun _ _ _ => rfl) (Keeps.refl _ _ _) (fun _ _ h => .inl h) h.slt (fun m b1 hb1 => .inl ⟨by rw [hset hb] at hb1; exact hb1, rfl, fun _ _ _ => ⟨rfl, fun _ h => h⟩⟩) (fun m m' b1 b2 k C C' h1 h2 => by rw [hset hb] at h1 h2; exact h.inj m m' b1 b2 k C C' h1 h2)
                  have := h2.putDst o.dst (p := .one (.v (.int .i64 (min els'.length n : Nat)))) (v := .int .i64 (min els'.length n : Nat)) (.base (.one (.pure (.v _ rfl (by simp)))))
                  simp only [setBs, hsame]
                  exact this
                · obtain ⟨k, C, hbm, rfl⟩ := hloc (by omega)
                  have hrep' : RepL S w (els'.take (min els'.length n)).flatten (news.take (min els'.length n * e1)) := by rw [take_flat hes (Nat.min_le_left _ _)]; exact hrep.take _
                  have hple : off + (els'.take (min els'.length n)).flatten.length ≤ cs.length := by rw [hdl]; omega
                  obtain ⟨w', hw1, hw2⟩ := h.writeP (P := P) (off := off) (ds := (els'.take (min els'.length n)).flatten) hb hbm hf (els' := [putCells cs off (els'.take (min els'.length n)).flatten])
                    (fun l hl => by simp at hl; subst hl; rw [put_len hple, hbcs]) (by simp [hcs]) (RepL.toM hrep') (by rw [hcs]; simpa using hple) (by rw [hcs]; simp)
                  have hr := run_copy (P := P) (ty := o.type) (w' := w') hut k1 (by rw [k4]; exact hsrc) (x := some ⟨k, off, none⟩) (dl := n) (c := cc) #[t, t'] rfl (fun ad had => by injection had with had; subst had; rw [k4]; exact hw1) (fun h => by simp at h)
                  refine wp_value (hex hr) ⟨S, bm, ?_⟩
                  have := hw2.putDst o.dst (p := .one (.v (.int .i64 (min els'.length n : Nat)))) (v := .int .i64 (min els'.length n : Nat)) (.base (.one (.pure (.v _ rfl (by simp)))))
                  exact this
            · simp at hu0
          · simp at hu0
        · simp at hu0
      · simp at hu
    · simp at hu
  · simp at hu
end
end Go.Av
end
