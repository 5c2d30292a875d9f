import Derived.Test.YtlfnplkjbejekaaL3
namespace Go.Proofs.Ytlfnplkjbejekaa
open Go.RowKit Go.Ab
set_option maxRecDepth 100000
set_option linter.unusedSimpArgs false
set_option linter.unusedVariables false
section
variable {T : Tab}
set_option maxHeartbeats 1000000 in
theorem w5 (d : Dis) (L : List Cl) (i1 : In64 d.lo) (i2 : In64 d.hi) (h7 : T 7 = some F7) (h8 : T 8 = some F8) (h12 : T 12 = some F12) (h18 : T 18 = some F18) (h14 : T 14 = some F14) (h16 : T 16 = some F16) :
    execFn tt T kp23 0 Try.f5 [.agg (disC d), lsP L] = some (bP true) := by
  refine fn_ends body5 ?_
  unfold c5
  rw [Try.ntmps5]
  have e8 := F8_eq L
  have e8d := F8_eq d.cl
  have e18 := F18_eq d L
  have e12 := F12_eq d
  have e16 := F16_eq i1 i2
  by_cases hL : L.length ≤ 70
  · by_cases hd : d.cl.length ≤ 70
    · have hn := narrows d L
      generalize answerV d L = r at hn e18
      obtain ⟨n, s, er⟩ := r
      simp only at hn e18
      generalize (askV d).1 = m at hn e12
      generalize (askV d).2 = mb at e12
      rcases hn with ⟨q1, rfl, rfl⟩ | ⟨rfl, q2, q3, q4, q5, q6, q7⟩
      · refine en_seq_reg rfl (by simp; rfl) ?_
        refine en_assoc ?_
        refine en_seq_reg rfl (by simp [h7, F7]; rfl) ?_
        refine en_seq_cond (t := false) (by simp [bV]) (fun h => by simp at h) (fun _ => ?_)
        refine en_seq_skip ?_
        refine en_assoc ?_
        refine en_seq_reg rfl (by simp [h8, e8, e8d, hL, hd]; rfl) ?_
        refine en_seq_cond (t := false) (by simp [bV]) (fun h => by simp at h) (fun _ => ?_)
        refine en_seq_skip ?_
        refine en_seq_reg rfl (by simp [h12, e12]; rfl) ?_
        refine en_seq_reg rfl (by simp [h18, e18, isP_eq]; rfl) ?_
        refine en_assoc ?_
        refine en_seq_reg rfl (by simp [q1]; rfl) ?_
        refine en_seq_cond (t := true) (by simp [bV, q1]) (fun _ => ?_) (fun h => by simp at h)
        refine en_assoc ?_
        refine en_seq_reg rfl (by simp [zeroDis]; rfl) ?_
        refine en_seq_ret ?_
        simp
      · have e16n := F16_eq q6 q7
        have e14 := F14_eq n
        have hw : IntKind.i64.wrap ((n.cl.length : Int) + (s.length : Int)) = d.cl.length := by
          rw [wrap_in (by unfold In64; omega)]; omega
        refine en_seq_reg rfl (by simp; rfl) ?_
        refine en_assoc ?_
        refine en_seq_reg rfl (by simp [h7, F7]; rfl) ?_
        refine en_seq_cond (t := false) (by simp [bV]) (fun h => by simp at h) (fun _ => ?_)
        refine en_seq_skip ?_
        refine en_assoc ?_
        refine en_seq_reg rfl (by simp [h8, e8, e8d, hL, hd]; rfl) ?_
        refine en_seq_cond (t := false) (by simp [bV]) (fun h => by simp at h) (fun _ => ?_)
        refine en_seq_skip ?_
        refine en_seq_reg rfl (by simp [h12, e12]; rfl) ?_
        refine en_seq_reg rfl (by simp [h18, e18, isP_eq]; rfl) ?_
        refine en_assoc ?_
        refine en_seq_reg rfl (by simp; rfl) ?_
        refine en_seq_cond (t := false) (by simp [bV]) (fun h => by simp at h) (fun _ => ?_)
        refine en_seq_skip ?_
        by_cases a : n.lo = m
        · have a1 := eq_true a
          by_cases b : n.hi = d.hi
          · have b1 := eq_true b
            refine en_assoc ?_
            refine en_seq_reg rfl (by simp [hw, a1, b1]; rfl) ?_
            refine en_seq_cond (t := false) (by simp [bV]) (fun h => by simp at h) (fun _ => ?_)
            refine en_seq_skip ?_
            refine en_assoc ?_
            by_cases z : n.hi = m
            · have z1 := eq_true z
              have o := q4 z
              refine en_seq_reg rfl (by simp [z1, h14, e14, o]; rfl) ?_
              refine en_seq_cond (t := false) (by simp [bV]) (fun h => by simp at h) (fun _ => ?_)
              refine en_seq_skip ?_
              refine en_seq_reg rfl (by simp [h16, e16, e16n, q5]; rfl) ?_
              refine en_ret ?_
              simp
            · have z1 := eq_false z
              refine en_seq_reg rfl (by simp [z1]; rfl) ?_
              refine en_seq_cond (t := false) (by simp [bV]) (fun h => by simp at h) (fun _ => ?_)
              refine en_seq_skip ?_
              refine en_seq_reg rfl (by simp [h16, e16, e16n, q5]; rfl) ?_
              refine en_ret ?_
              simp
          · have b1 := eq_false b
            obtain ⟨t, u, v⟩ := q2.resolve_left (fun h => b h.2)
            have t1 := eq_true t
            have u1 := eq_true u
            have v1 := eq_true v
            refine en_assoc ?_
            refine en_seq_reg rfl (by simp [hw, a1, b1, t1, u1, v1]; rfl) ?_
            refine en_seq_cond (t := false) (by simp [bV]) (fun h => by simp at h) (fun _ => ?_)
            refine en_seq_skip ?_
            refine en_assoc ?_
            by_cases z : n.hi = m
            · have z1 := eq_true z
              have o := q4 z
              refine en_seq_reg rfl (by simp [z1, h14, e14, o]; rfl) ?_
              refine en_seq_cond (t := false) (by simp [bV]) (fun h => by simp at h) (fun _ => ?_)
              refine en_seq_skip ?_
              refine en_seq_reg rfl (by simp [h16, e16, e16n, q5]; rfl) ?_
              refine en_ret ?_
              simp
            · have z1 := eq_false z
              refine en_seq_reg rfl (by simp [z1]; rfl) ?_
              refine en_seq_cond (t := false) (by simp [bV]) (fun h => by simp at h) (fun _ => ?_)
              refine en_seq_skip ?_
              refine en_seq_reg rfl (by simp [h16, e16, e16n, q5]; rfl) ?_
              refine en_ret ?_
              simp
        · have a1 := eq_false a
          obtain ⟨t, u, v⟩ := q2.resolve_left (fun h => a h.1)
          have t1 := eq_true t
          have u1 := eq_true u
          have v1 := eq_true v
          refine en_assoc ?_
          refine en_seq_reg rfl (by simp [hw, a1, t1, u1, v1]; rfl) ?_
          refine en_seq_cond (t := false) (by simp [bV]) (fun h => by simp at h) (fun _ => ?_)
          refine en_seq_skip ?_
          refine en_assoc ?_
          by_cases z : n.hi = m
          · have z1 := eq_true z
            have o := q4 z
            refine en_seq_reg rfl (by simp [z1, h14, e14, o]; rfl) ?_
            refine en_seq_cond (t := false) (by simp [bV]) (fun h => by simp at h) (fun _ => ?_)
            refine en_seq_skip ?_
            refine en_seq_reg rfl (by simp [h16, e16, e16n, q5]; rfl) ?_
            refine en_ret ?_
            simp
          · have z1 := eq_false z
            refine en_seq_reg rfl (by simp [z1]; rfl) ?_
            refine en_seq_cond (t := false) (by simp [bV]) (fun h => by simp at h) (fun _ => ?_)
            refine en_seq_skip ?_
            refine en_seq_reg rfl (by simp [h16, e16, e16n, q5]; rfl) ?_
            refine en_ret ?_
            simp
    · refine en_seq_reg rfl (by simp; rfl) ?_
      refine en_assoc ?_
      refine en_seq_reg rfl (by simp [h7, F7]; rfl) ?_
      refine en_seq_cond (t := false) (by simp [bV]) (fun h => by simp at h) (fun _ => ?_)
      refine en_seq_skip ?_
      refine en_assoc ?_
      refine en_seq_reg rfl (by simp [h8, e8, e8d, hL, hd]; rfl) ?_
      refine en_seq_cond (t := true) (by simp [bV]) (fun _ => ?_) (fun h => by simp at h)
      refine en_assoc ?_
      refine en_seq_reg rfl (by simp; rfl) ?_
      refine en_seq_ret ?_
      simp
  · refine en_seq_reg rfl (by simp; rfl) ?_
    refine en_assoc ?_
    refine en_seq_reg rfl (by simp [h7, F7]; rfl) ?_
    refine en_seq_cond (t := false) (by simp [bV]) (fun h => by simp at h) (fun _ => ?_)
    refine en_seq_skip ?_
    refine en_assoc ?_
    refine en_seq_reg rfl (by simp [h8, e8, e8d, hL]; rfl) ?_
    refine en_seq_cond (t := true) (by simp [bV]) (fun _ => ?_) (fun h => by simp at h)
    refine en_assoc ?_
    refine en_seq_reg rfl (by simp; rfl) ?_
    refine en_seq_ret ?_
    simp
end
end Go.Proofs.Ytlfnplkjbejekaa
