import Derived.Test.YtipochhfofhofaaDoorS10
namespace Go.Proofs.YtipochhfofhofaaDoor
open Go.RowKit
open Go.Av
set_option maxRecDepth 100000
set_option linter.unusedSimpArgs false
set_option linter.unusedVariables false
variable {G : Glob}
def dbl (b : List Int) : Arr 32 := sumL (sumL b).l
theorem chunk_arC {n : Nat} {k : IntKind} (a : Arr n) : chunk 1 n (arC k a) = intsR k a.l := by
  have := chunk_ints (k := k) (n := n) (l := a.l) (by rw [a.hl]; exact Nat.le_refl _)
  unfold arC
  rw [this, List.take_of_length_le (by rw [a.hl]; exact Nat.le_refl _)]
theorem a32_le (S : Arr 32) : S.l.length ≤ 1099511627776 := by rw [S.hl]; omega
theorem m32 : 32 ≤ maxLen := by unfold maxLen; omega
section
variable {T : Tab}
theorem w41 (b : List Int) (S D : Arr 32) (h49 : T 49 = some G49) (e1 : G49 [.one (isC .u8 b)] = some (.agg (arC .u8 S), [])) (e2 : G49 [.one (isC .u8 S.l)] = some (.agg (arC .u8 D), [])) (hc : chunk 1 32 (arC .u8 S) = intsR .u8 S.l) : execFn tt T G kp0 false 0 Tryd.f41 [.one (isC .u8 b)] = some (.agg (arC .u8 D), []) := by
  refine fn_ends body41 ?_
  unfold c41
  rw [Tryd.ntmps41]
  refine en_seq_reg rfl (by simp; rfl) ?_
  refine en_seq_reg rfl (by simp [h49, e1]; rfl) ?_
  refine en_seq_reg rfl (by simp [h49, e2, m32, hc, -chunk]; rfl) ?_
  refine en_ret ?_
  simp
theorem w43 (b : List Int) (S D : Arr 32) (h51 : T 51 = some G49) (e1 : G49 [.one (isC .u8 b)] = some (.agg (arC .u8 S), [])) (e2 : G49 [.one (isC .u8 S.l)] = some (.agg (arC .u8 D), [])) (hc : chunk 1 32 (arC .u8 S) = intsR .u8 S.l) : execFn tt T G kp0 false 0 Tryd.f43 [.one (isC .u8 b)] = some (.agg (arC .u8 D), []) := by
  refine fn_ends body43 ?_
  unfold c43
  rw [Tryd.ntmps43]
  refine en_seq_reg rfl (by simp; rfl) ?_
  refine en_seq_reg rfl (by simp [h51, e1]; rfl) ?_
  refine en_seq_reg rfl (by simp [h51, e2, m32, hc, -chunk]; rfl) ?_
  refine en_ret ?_
  simp
end
noncomputable def G41 := lift (fun x : { b : List Int // b.length ≤ 1099511627776 } => [.one (isC .u8 x.1)]) fun x => some (.agg (arC .u8 (dbl x.1)), [])
theorem G41_eq {b : List Int} (h : b.length ≤ 1099511627776) : G41 [.one (isC .u8 b)] = some (.agg (arC .u8 (dbl b)), []) := lift_eq (enc := fun x : { b : List Int // b.length ≤ 1099511627776 } => [.one (isC .u8 x.1)]) (fun a b h => by
  simp at h
  exact Subtype.ext (intsR_inj h)) ⟨b, h⟩
theorem v41 (g0 : G 0 = some (arC .u32 iniA)) (g1 : G 1 = some (arC .u32 kA)) : Impl Tryd.prog G 41 G41 := impl_of (T := Av.tab [(49, G49)]) mixed htt (Av.tab_ok ⟨v49 g0 g1, trivial⟩) Tryd.func41 body41 (by kernel_rfl) fun ps r ho hF => by
  obtain ⟨x, rfl, h⟩ := lift_inv hF
  injection h with h
  subst h
  exact ⟨_, _, _, w41 x.1 (sumL x.1) (dbl x.1) rfl (G49_eq x.2) (G49_eq (a32_le _)) (chunk_arC _)⟩
theorem v43 : Impl Tryd.prog G 43 G41 := impl_of (T := Av.tab [(51, G49)]) mixed htt (Av.tab_ok ⟨v51, trivial⟩) Tryd.func43 body43 (by kernel_rfl) fun ps r ho hF => by
  obtain ⟨x, rfl, h⟩ := lift_inv hF
  injection h with h
  subst h
  exact ⟨_, _, _, w43 x.1 (sumL x.1) (dbl x.1) rfl (G49_eq x.2) (G49_eq (a32_le _)) (chunk_arC _)⟩
end Go.Proofs.YtipochhfofhofaaDoor
