import Derived.Test.YtlajgdeoobmjjaaMem
import Derived.ProofKit
import Derived.OpenShut
import Derived.Lib.SmallJoins
namespace Go.Proofs.Ytlajgdeoobmjjaa
open Go.ChangeShapes Go.WideShapes Go.ChangeAt Go.RowKit Go.Joins

/-- a slice value that reads as the numbers zs -/
def RowOf (w : World) (k : IntKind) (v : Value) (zs : List Int) : Prop :=
  ∃ a len cap, v = .slice a len cap ∧ Rd w w.heap.size a (zs.map (Value.int k)) ∧ zs.length = len ∧ len ≤ cap ∧ cap ≤ maxLen ∧ ∀ n ∈ zs, (Lit.int k n).wf = true

section
variable {H : Type} {enc : TypeId × Value → H} {P : Program} {w : World} {base : Nat} {spare : Nat → Bool} {held : Bool}

theorem rd_take {k : IntKind} {x : Addr} {len : Nat} {zs : List Int} (hc : ∀ i, i < zs.length → w.cell? (x.add i) = some (.int k (zs.getD i 0))) : Rd w w.heap.size (some x) ((zs.take len).map (Value.int k)) := by
  intro hne
  have h0 : 0 < zs.length := by
    rcases Nat.eq_zero_or_pos zs.length with h | h
    · exact absurd (by rw [List.length_eq_zero_iff.1 h]; simp) hne
    · exact h
  have hb := World.block_lt_of_cell? w _ (hc 0 h0)
  rw [block_of_add] at hb
  refine ⟨x, rfl, hb, fun j u hu => ?_⟩
  have hj : j < (zs.take len).length := by
    rcases Nat.lt_or_ge j (zs.take len).length with h | h
    · exact h
    · rw [List.getElem?_eq_none (by simpa using h)] at hu; cases hu
  have hj2 : j < zs.length := by simp at hj; omega
  rw [hc j hj2, ← hu]
  simp [List.getD, List.getElem?_eq_getElem hj2]
  simp at hj
  rw [List.getElem?_take_of_lt (by omega)]
  simp [hj2]

theorem open_cell_row {t e : TypeId} {k : IntKind} {fuel : Nat} {v : Value} {x : DataW H × List MemPlace} (ht : P.underlying t = some (.slice e)) (he : P.underlying e = some (.int k)) (hc : P.cellsOf e = 1)
    (hsp : ∀ b, spare b = true) (h : DataW.trod enc P w base spare held fuel t [v] = some x) : ∃ zs, RowOf w k v zs := by
  rcases open_ints ht he hc h with ⟨hcs, _⟩ | ⟨a, l, c, zs, hcs, _, hl, hm, hz, _, hcell, hwz⟩
  · simp at hcs
    subst hcs
    exact ⟨[], none, 0, 0, rfl, by simpa using Rd.nil, rfl, Nat.le_refl _, Nat.zero_le _, by simp⟩
  · simp at hcs
    subst hcs
    rw [if_pos (hsp _)] at hz
    exact ⟨zs.take l, _, l, c, rfl, rd_take hcell, by simp; omega, hl, hm, fun n hn => hwz n (List.mem_of_mem_take hn)⟩

theorem open_row {r : Reach} {b0 : Nat} {t e : TypeId} {k : IntKind} {v : Value} {d : DataW H} {p : List MemPlace} (ht : P.underlying t = some (.slice e)) (he : P.underlying e = some (.int k)) (hc : P.cellsOf e = 1)
    (hsp : ∀ b, spare b = true) (hv : Value.okWide P w r b0 t v) (h : DataW.Trod enc P w base spare held t v d p) : ∃ zs, RowOf w k v zs := by
  obtain ⟨a, len, cap, rfl⟩ := okWide_slice ht hv
  obtain ⟨fuel, hf⟩ := h
  exact open_cell_row ht he hc hsp hf
end
end Go.Proofs.Ytlajgdeoobmjjaa
