import Derived.Test.YtlfnplkjbejekaaAvP4
import Derived.Test.YtlfnplkjbejekaaAbP3
namespace Go.Tr
open Go.RowKit
set_option linter.unusedVariables false
inductive Eqv : Ab.Cell → Av.Cell → Prop
  | v (x : Value) : Eqv (.v x) (.v x)
  | slice (els : List (List Ab.Cell)) (els' : List (List Av.Cell)) : els.length = els'.length → (∀ (i : Nat) (l : List Ab.Cell) (l' : List Av.Cell), els[i]? = some l → els'[i]? = some l' → l.length = l'.length) →
      (∀ (i : Nat) (l : List Ab.Cell) (l' : List Av.Cell), els[i]? = some l → els'[i]? = some l' → ∀ (j : Nat) c c', l[j]? = some c → l'[j]? = some c' → Eqv c c') → Eqv (.slice .no els) (.slice .no els')
theorem get_pair {α β : Type} {l : List α} {m : List β} (hl : l.length = m.length) {i : Nat} {a : α} (ha : l[i]? = some a) : ∃ b, m[i]? = some b := by
  have := (List.getElem?_eq_some_iff.1 ha).1
  exact ⟨m[i]'(by omega), by simp [show i < m.length by omega]⟩
theorem get_pair' {α β : Type} {l : List α} {m : List β} (hl : l.length = m.length) {i : Nat} {b : β} (ha : m[i]? = some b) : ∃ a, l[i]? = some a := get_pair hl.symm ha
section
variable {S : Nat → Nat → Prop} {w : World}
theorem Eqv.to {c : Ab.Cell} {c' : Av.Cell} (h : Eqv c c') {v : Value} (hr : Ab.RepC S w c v) : Av.RepC S w c' v := by
  induction h generalizing v with
  | v x => cases hr with | v _ h1 h2 => exact .v _ h1 h2
  | slice els els' hl hll _ ih =>
    cases hr with
    | slice _ a c e b o m hc hx he h0 ha hm hr =>
      have := Av.RepC.slice (S := S) (w := w) els' a c e b o m (by omega) hx (fun l' hl' => by
        obtain ⟨i, hi⟩ := List.getElem?_of_mem hl'
        obtain ⟨l, hi'⟩ := get_pair' hl hi
        rw [← hll i l l' hi' hi]
        exact he l (List.mem_of_getElem? hi')) h0 (fun hne => ha (by rintro rfl; simp at hl; exact hne (List.length_eq_zero_iff.1 hl.symm))) (fun i l' hi j hj => by
        obtain ⟨l, hi'⟩ := get_pair' hl hi
        exact hm i l hi' j hj) (fun i l' hi j x' hx' => by
        obtain ⟨l, hi'⟩ := get_pair' hl hi
        obtain ⟨x, hx⟩ := get_pair' (hll i l l' hi' hi) hx'
        exact ih i l l' hi' hi j x x' hx hx' (hr i l hi' j x hx))
      rw [← hl] at this
      exact this
theorem Eqv.from {c : Ab.Cell} {c' : Av.Cell} (h : Eqv c c') {v : Value} (hr : Av.RepC S w c' v) : Ab.RepC S w c v := by
  induction h generalizing v with
  | v x => cases hr with | v _ h1 h2 => exact .v _ h1 h2
  | slice els els' hl hll _ ih =>
    cases hr with
    | slice _ a c e b o m hc hx he h0 ha hm hr =>
      have := Ab.RepC.slice (S := S) (w := w) els a c e b o m (by omega) hx (fun l' hl' => by
        obtain ⟨i, hi⟩ := List.getElem?_of_mem hl'
        obtain ⟨l, hi'⟩ := get_pair hl hi
        rw [hll i l' l hi hi']
        exact he l (List.mem_of_getElem? hi')) h0 (fun hne => ha (by rintro rfl; simp at hl; exact hne hl)) (fun i l' hi j hj => by
        obtain ⟨l, hi'⟩ := get_pair hl hi
        exact hm i l hi' j hj) (fun i l' hi j x' hx' => by
        obtain ⟨l, hi'⟩ := get_pair hl hi
        obtain ⟨x, hx⟩ := get_pair (hll i l' l hi hi') hx'
        exact ih i l' l hi hi' j x' x hx' hx (hr i l hi' j x hx))
      rw [hl] at this
      exact this
end
/-- lists of cells -/
abbrev EqvL : List Ab.Cell → List Av.Cell → Prop := Av.All2 Eqv
theorem Eqv.row {α : Type} {f : α → List Ab.Cell} {g : α → List Av.Cell} (L : List α) (h : ∀ a, EqvL (f a) (g a)) : Eqv (.slice .no (L.map f)) (.slice .no (L.map g)) := by
  have key : ∀ (i : Nat) (l : List Ab.Cell) (l' : List Av.Cell), (L.map f)[i]? = some l → (L.map g)[i]? = some l' → ∃ a, l = f a ∧ l' = g a := by
    intro i l l' hl hl'
    simp only [List.getElem?_map] at hl hl'
    cases ha : L[i]? with
    | none => simp [ha] at hl
    | some a =>
      simp [ha] at hl hl'
      exact ⟨a, hl.symm, hl'.symm⟩
  refine .slice _ _ (by simp) (fun i l l' hl hl' => ?_) (fun i l l' hl hl' j c c' hc hc' => ?_)
  · obtain ⟨a, rfl, rfl⟩ := key i l l' hl hl'
    exact (h a).length
  · obtain ⟨a, rfl, rfl⟩ := key i l l' hl hl'
    obtain ⟨c2, h1, h2⟩ := (h a).get hc
    rw [hc'] at h1
    injection h1 with h1
    subst h1
    exact h2
inductive EqvP : Ab.PV → Av.PV → Prop
  | one {c c'} : Eqv c c' → EqvP (.one c) (.one c')
  | agg {cs cs'} : EqvL cs cs' → EqvP (.agg cs) (.agg cs')
inductive EqvR : Ab.PV → Av.PV → Prop
  | base {p q} : EqvP p q → EqvR p q
  | tup {ps qs} : Av.All2 EqvP ps qs → EqvR (.tup ps) (.tup qs)
section
variable {P : Program} {G : Av.Glob}
theorem args_from {S : Nat → Nat → Prop} {w : World} {ks : List Nat} {ps : List Av.PV} {vs : List Value} (h : Av.ArgsOk S w ks ps vs) : ∀ {as : List Ab.PV}, Av.All2 EqvP as ps → ks = [] ∧ Ab.All2 (Ab.RepB S w fun _ => none) as vs ∧ as.all Ab.isData = true := by
  induction h with
  | nil => intro as ha; cases ha; exact ⟨rfl, .nil, rfl⟩
  | one h1 _ ih =>
    intro as ha
    cases ha with
    | cons e1 e2 =>
      obtain ⟨i1, i2, i3⟩ := ih e2
      cases e1 with
      | one e1 => exact ⟨i1, .cons (.one (e1.from h1)) i2, by rw [List.all_cons, i3]; rfl⟩
  | agg h1 _ ih =>
    intro as ha
    cases ha with
    | cons e1 e2 =>
      obtain ⟨i1, i2, i3⟩ := ih e2
      cases e1 with
      | agg e1 =>
        refine ⟨i1, .cons (.agg ?_) i2, by rw [List.all_cons, i3]; rfl⟩
        rename_i cs us _ _ _ cs'
        refine Ab.All2.of_get (by rw [e1.length, h1.length]) fun i a b hx hy => ?_
        obtain ⟨c', g1, g2⟩ := e1.get hx
        obtain ⟨b', g3, g4⟩ := h1.get g1
        rw [hy] at g3
        injection g3 with g3
        subst g3
        exact g2.from g4
  | fn _ _ => intro as ha; cases ha with | cons e1 _ => cases e1
  | io _ _ _ _ => intro as ha; cases ha with | cons e1 _ => cases e1
theorem res_to {S : Nat → Nat → Prop} {w : World} {base : Nat} {p : Ab.PV} {q : Av.PV} (h : EqvP p q) {v : Value} (hr : Ab.RepB S w (fun _ => none) p v) : Av.RepRP S w base [] q v := by
  cases h with
  | one h => cases hr with | one hr => exact .one (.pure (h.to hr))
  | agg h =>
    cases hr with
    | agg hr =>
      rename_i cs cs' vs
      refine .agg ?_
      induction h generalizing vs with
      | nil => cases hr; exact .nil
      | cons e1 _ ih => cases hr with | cons r1 r2 => exact .cons (i := []) (j := []) (.pure (e1.to r1)) (ih r2)
theorem resR_to {S : Nat → Nat → Prop} {w : World} {base : Nat} {p : Ab.PV} {q : Av.PV} (h : EqvR p q) {v : Value} (hr : Ab.RepV S w (fun _ => none) p v) : Av.RepRR S w base [] q v := by
  cases h with
  | base h =>
    cases hr with
    | base hr => exact .base (res_to h hr)
    | tup hr => cases h
  | tup h =>
    cases hr with
    | base hr => cases hr
    | tup hr =>
      rename_i ps qs vs
      refine .tup ?_
      induction h generalizing vs with
      | nil => cases hr; exact .nil
      | cons e1 _ ih => cases hr with | cons r1 r2 => exact .cons (i := []) (j := []) (res_to e1 r1) (ih r2)
/-- a contract of the first interpreter, for the second one -/
theorem impl {f : FuncId} {F1 : List Ab.PV → Option Ab.PV} (h : Ab.Impl P f F1) {α : Type} {e1 : α → List Ab.PV} {e2 : α → List Av.PV} {r1 : α → Ab.PV} {r2 : α → Av.PV} (he : ∀ a, Av.All2 EqvP (e1 a) (e2 a)) (hF : ∀ a, F1 (e1 a) = some (r1 a)) (hr : ∀ a, EqvR (r1 a) (r2 a)) :
    Av.Impl P G f (Av.lift e2 fun a => some (r2 a, [])) := by
  refine ⟨h.1, fun S w ks ps vs r outs hg hs ha hn hf => ?_⟩
  obtain ⟨a, rfl, h2⟩ := Av.lift_inv hf
  simp only [Option.some.injEq, Prod.mk.injEq] at h2
  obtain ⟨rfl, rfl⟩ := h2
  obtain ⟨rfl, h3, h4⟩ := args_from ha (he a)
  refine (h.2 S w _ vs _ hs h4 h3 (hF a)).mono ?_
  rintro e w' ⟨v, S', rfl, hv, hgr⟩
  refine ⟨v, S', [], rfl, resR_to (hr a) hv, by simp [Av.blksOf], .nil, ⟨⟨hgr.below.os, hgr.below.tape, hgr.below.output, hgr.below.size, fun b hb _ => hgr.below.block b hb⟩, hgr.mono, hgr.fresh, hgr.slt⟩⟩
end
end Go.Tr
