import Derived.Test.YtlfnplkjbejekaaVS
namespace Go.Proofs.Ytlfnplkjbejekaa.V
open Go.RowKit
open Go.Av hiding iP bP
set_option maxRecDepth 100000
set_option linter.unusedSimpArgs false
set_option linter.unusedVariables false
def sx : Dis := ⟨4, 8, z32 1, [s1, s2]⟩
theorem a1 : askV sd = (4, false) := by decide
theorem a2 : answerV sd [s1, s3] = (sx, [], 0) := by decide
theorem a3 : askV sx = (6, false) := by decide
theorem a4 : openV sd = true := by decide
theorem a5 : roundsV 0 8 = 3 := by decide
variable {G : Glob}
section
variable {T : Tab}
set_option maxHeartbeats 1000000 in
theorem w7 (h9 : T 9 = some G9) (h12 : T 12 = some G12) (h14 : T 14 = some G14) (h16 : T 16 = some G16) (h18 : T 18 = some G18) : execFn tt T G kp0 false 0 Try.f7 [] = some (bW true, []) := by
  refine fn_ends body7 ?_
  unfold c7
  rw [Try.ntmps7]
  have e9 := G9_eq
  have e12 := G12_eq sd
  have e14 := G14_eq sd
  have e16 := G16_eq 0 8 (by unfold In64; omega) (by unfold In64; omega)
  have e18 := G18_eq sd [s1, s3]
  have e12x := G12_eq sx
  rw [a1] at e12
  rw [a2] at e18
  rw [a3] at e12x
  rw [a4] at e14
  rw [a5] at e16
  simp [hV, ints, z32, clV, s1, s2, s3, disV, sd, sx, List.replicate, intsR, lsV, iV, bW] at e9 e12 e14 e16 e18 e12x
  refine en_seq_reg rfl (by simp [List.replicate]; rfl) ?_
  refine en_seq_reg rfl (by simp [List.replicate]; rfl) ?_
  refine en_seq_reg rfl (by simp [h9, e9, List.replicate]; rfl) ?_
  refine en_seq_reg rfl (by simp [h12, e12]; rfl) ?_
  refine en_seq_reg rfl (by simp; rfl) ?_
  refine en_seq_reg rfl (by simp [h18, e18]; rfl) ?_
  refine en_seq_reg rfl (by simp [h12, e12x]; rfl) ?_
  refine en_seq_reg rfl (by simp [h14, e14, h16, e16]; rfl) ?_
  refine en_ret ?_
  simp
end
end Go.Proofs.Ytlfnplkjbejekaa.V
