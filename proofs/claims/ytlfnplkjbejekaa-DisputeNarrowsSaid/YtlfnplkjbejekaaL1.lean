import Derived.Test.YtlfnplkjbejekaaI2
namespace Go.Proofs.Ytlfnplkjbejekaa
open Go.RowKit Go.Ab
set_option maxRecDepth 100000
set_option linter.unusedSimpArgs false
set_option linter.unusedVariables false
section
variable {T : Tab}
def F7 : List PV → Option PV
  | [] => some (bP true)
  | _ => none
theorem w4 (d : Dis) (L : List Cl) (h7 : T 7 = some F7) (h8 : T 8 = some F8) (h18 : T 18 = some F18) (h19 : T 19 = some F18) (h11 : T 11 = some F11) (h20 : T 20 = some F20) :
    execFn tt T kp23 0 Try.f4 [.agg (disC d), lsP L] = some (bP true) := by
  refine fn_ends body4 ?_
  unfold c4
  rw [Try.ntmps4]
  have e8 := F8_eq L
  have e8d := F8_eq d.cl
  have e18 := F18_eq d L
  have e11 := F11_eq (answerV d L).1 (answerV d L).1
  have e20 := F20_eq (answerV d L).2.1 (answerV d L).2.1
  simp only [isP_eq] at e20
  by_cases hL : L.length ≤ 70
  · by_cases hd : d.cl.length ≤ 70
    · refine en_seq_reg rfl (by simp; rfl) ?_
      refine en_assoc ?_
      refine en_seq_reg rfl (by simp [h7, F7]; rfl) ?_
      refine en_seq_cond (t := false) (by simp [bV]) (fun h => by simp at h) (fun _ => ?_)
      refine en_seq_skip ?_
      refine en_assoc ?_
      refine en_seq_reg rfl (by simp [h8, e8, e8d, hL, hd]; rfl) ?_
      refine en_seq_cond (t := false) (by simp [bV]) (fun h => by simp at h) (fun _ => ?_)
      refine en_seq_skip ?_
      refine en_seq_reg rfl (by simp [h18, e18, isP_eq]; rfl) ?_
      refine en_seq_reg rfl (by simp [h19, e18, isP_eq]; rfl) ?_
      refine en_seq_reg rfl (by simp [h11, e11, h20, e20, isP_eq]; rfl) ?_
      refine en_ret ?_
      simp
    · refine en_seq_reg rfl (by simp; rfl) ?_
      refine en_assoc ?_
      refine en_seq_reg rfl (by simp [h7, F7]; rfl) ?_
      refine en_seq_cond (t := false) (by simp [bV]) (fun h => by simp at h) (fun _ => ?_)
      refine en_seq_skip ?_
      refine en_assoc ?_
      refine en_seq_reg rfl (by simp [h8, e8, e8d, hL, hd]; rfl) ?_
      refine en_seq_cond (t := true) (by simp [bV]) (fun _ => ?_) (fun h => by simp at h)
      refine en_assoc ?_
      refine en_seq_reg rfl (by simp; rfl) ?_
      refine en_seq_ret ?_
      simp
  · refine en_seq_reg rfl (by simp; rfl) ?_
    refine en_assoc ?_
    refine en_seq_reg rfl (by simp [h7, F7]; rfl) ?_
    refine en_seq_cond (t := false) (by simp [bV]) (fun h => by simp at h) (fun _ => ?_)
    refine en_seq_skip ?_
    refine en_assoc ?_
    refine en_seq_reg rfl (by simp [h8, e8, e8d, hL]; rfl) ?_
    refine en_seq_cond (t := true) (by simp [bV]) (fun _ => ?_) (fun h => by simp at h)
    refine en_assoc ?_
    refine en_seq_reg rfl (by simp; rfl) ?_
    refine en_seq_ret ?_
    simp
theorem w6 (d : Dis) (r : Hs) (n : Int) (hn : 0 ≤ n ∧ n ≤ 255) (hlen : d.cl.length ≤ 9223372036854775807) (h7 : T 7 = some F7) (h8 : T 8 = some F8) (h21 : T 21 = some F21) (h22 : T 22 = some F21) (h11 : T 11 = some F11) (h20 : T 20 = some F20) :
    execFn tt T kp23 0 Try.f6 [.agg (disC d), .agg (hC r), .one (.v (.int .u8 n))] = some (bP true) := by
  refine fn_ends body6 ?_
  unfold c6
  rw [Try.ntmps6]
  have e8d := F8_eq d.cl
  have e21 := fun x => F21_eq d x
  have e11 := fun x => F11_eq (settleV d x).1 (settleV d x).1
  have e20 := fun x => F20_eq (settleV d x).2.1 (settleV d x).2.1
  simp only [isP_eq] at e20
  by_cases hd : d.cl.length ≤ 70
  · by_cases h0 : 0 < d.cl.length
    · by_cases h3 : 0 < n.tmod 3
      · have hw : IntKind.i64.wrap n = n := wrap_in (by unfold In64; omega)
        have hne : ¬ (d.cl.length : Int) = 0 := by omega
        have hlt : n.tmod d.cl.length < d.cl.length := Int.tmod_lt_of_pos _ (by omega)
        have hge : 0 ≤ n.tmod d.cl.length := Int.tmod_nonneg _ hn.1
        have hidx : (n.tmod d.cl.length).toNat < d.cl.length := by omega
        obtain ⟨c, hc'⟩ : ∃ c, d.cl[(n.tmod d.cl.length).toNat] = c := ⟨_, rfl⟩
        have hc : d.cl[(n.tmod d.cl.length).toNat]? = some c := by rw [← hc']; simp [hidx]
        have hne' : d.cl ≠ [] := List.length_pos_iff.1 h0
        refine en_seq_reg rfl (by simp; rfl) ?_
        refine en_assoc ?_
        refine en_seq_reg rfl (by simp [h7, F7]; rfl) ?_
        refine en_seq_cond (t := false) (by simp [bV]) (fun h => by simp at h) (fun _ => ?_)
        refine en_seq_skip ?_
        refine en_assoc ?_
        refine en_seq_reg rfl (by simp [h8, e8d, hd]; rfl) ?_
        refine en_seq_cond (t := false) (by simp [bV]) (fun h => by simp at h) (fun _ => ?_)
        refine en_seq_skip ?_
        refine en_assoc ?_
        refine en_seq_reg rfl (by simp [h0, h3]; rfl) ?_
        refine en_seq_cond (t := true) (by simp [bV]) (fun _ => ?_) (fun h => by simp at h)
        refine en_seq_reg rfl (by simp [hw, hne, hge, hc, hc', hidx, hne']; rfl) ?_
        refine en_seq_reg rfl (by simp [h21, e21, isP_eq]; rfl) ?_
        refine en_seq_reg rfl (by simp [h22, e21, isP_eq]; rfl) ?_
        refine en_seq_reg rfl (by simp [h11, e11, h20, e20, isP_eq]; rfl) ?_
        refine en_ret ?_
        simp
      · refine en_seq_reg rfl (by simp; rfl) ?_
        refine en_assoc ?_
        refine en_seq_reg rfl (by simp [h7, F7]; rfl) ?_
        refine en_seq_cond (t := false) (by simp [bV]) (fun h => by simp at h) (fun _ => ?_)
        refine en_seq_skip ?_
        refine en_assoc ?_
        refine en_seq_reg rfl (by simp [h8, e8d, hd]; rfl) ?_
        refine en_seq_cond (t := false) (by simp [bV]) (fun h => by simp at h) (fun _ => ?_)
        refine en_seq_skip ?_
        refine en_assoc ?_
        refine en_seq_reg rfl (by simp [h0, h3]; rfl) ?_
        refine en_seq_cond (t := false) (by simp [bV]) (fun h => by simp at h) (fun _ => ?_)
        refine en_seq_skip ?_
        refine en_seq_reg rfl (by simp [h21, e21, isP_eq]; rfl) ?_
        refine en_seq_reg rfl (by simp [h22, e21, isP_eq]; rfl) ?_
        refine en_seq_reg rfl (by simp [h11, e11, h20, e20, isP_eq]; rfl) ?_
        refine en_ret ?_
        simp
    · refine en_seq_reg rfl (by simp; rfl) ?_
      refine en_assoc ?_
      refine en_seq_reg rfl (by simp [h7, F7]; rfl) ?_
      refine en_seq_cond (t := false) (by simp [bV]) (fun h => by simp at h) (fun _ => ?_)
      refine en_seq_skip ?_
      refine en_assoc ?_
      refine en_seq_reg rfl (by simp [h8, e8d, hd]; rfl) ?_
      refine en_seq_cond (t := false) (by simp [bV]) (fun h => by simp at h) (fun _ => ?_)
      refine en_seq_skip ?_
      refine en_assoc ?_
      refine en_seq_reg rfl (by simp [h0]; rfl) ?_
      refine en_seq_cond (t := false) (by simp [bV]) (fun h => by simp at h) (fun _ => ?_)
      refine en_seq_skip ?_
      refine en_seq_reg rfl (by simp [h21, e21, isP_eq]; rfl) ?_
      refine en_seq_reg rfl (by simp [h22, e21, isP_eq]; rfl) ?_
      refine en_seq_reg rfl (by simp [h11, e11, h20, e20, isP_eq]; rfl) ?_
      refine en_ret ?_
      simp
  · refine en_seq_reg rfl (by simp; rfl) ?_
    refine en_assoc ?_
    refine en_seq_reg rfl (by simp [h7, F7]; rfl) ?_
    refine en_seq_cond (t := false) (by simp [bV]) (fun h => by simp at h) (fun _ => ?_)
    refine en_seq_skip ?_
    refine en_assoc ?_
    refine en_seq_reg rfl (by simp [h8, e8d, hd]; rfl) ?_
    refine en_seq_cond (t := true) (by simp [bV]) (fun _ => ?_) (fun h => by simp at h)
    refine en_assoc ?_
    refine en_seq_reg rfl (by simp; rfl) ?_
    refine en_seq_ret ?_
    simp
end
end Go.Proofs.Ytlfnplkjbejekaa
