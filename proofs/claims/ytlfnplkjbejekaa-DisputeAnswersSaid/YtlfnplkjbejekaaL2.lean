import Derived.Test.YtlfnplkjbejekaaL1
namespace Go.Proofs.Ytlfnplkjbejekaa
open Go.RowKit Go.Ab
set_option maxRecDepth 100000
set_option linter.unusedSimpArgs false
set_option linter.unusedVariables false
section
variable {T : Tab}
theorem F16_eq {lo hi : Int} (h1 : In64 lo) (h2 : In64 hi) : F16 [iP lo, iP hi] = some (iP (roundsV lo hi)) := by
  unfold In64 at h1 h2
  simp only [F16]
  rw [if_pos ⟨h1.1, h1.2, h2.1, h2.2⟩]
def kp3 : Keep := fun _ => ([0, 2, 59, 60, 61], 4)
def H3 (lo hi : Int) (ag : Hs) (d a : Dis) (k : Nat) : ASt :=
  ⟨[iP lo, .undef, iP hi] ++ und 56 ++ [.one (.slice (.tip 35) [disC a, disC d]), iP 2, iP k] ++ und 36, [⟨hC ag, false⟩, ⟨disC d, false⟩, ⟨disC a, false⟩, ⟨disC a, false⟩]⟩
set_option maxHeartbeats 1000000 in
theorem w3 (lo : Int) (ag : Hs) (hi : Int) (L : List Cl) (d : Dis) (i1 : In64 lo) (i2 : In64 hi) (h7 : T 7 = some F7) (h8 : T 8 = some F8) (h9 : T 9 = some F9) (h10 : T 10 = some F9) (h11 : T 11 = some F11)
    (h12 : T 12 = some F12) (h13 : T 13 = some F12) (h14 : T 14 = some F14) (h15 : T 15 = some F14) (h16 : T 16 = some F16) (h17 : T 17 = some F16) :
    execFn tt T kp3 5 Try.f3 [iP lo, .agg (hC ag), iP hi, lsP L, .agg (disC d)] = some (bP true) := by
  refine fn_ends body3 ?_
  unfold c3
  rw [Try.ntmps3]
  have e8 := F8_eq L
  have e8d := F8_eq d.cl
  have e9 := F9_eq lo ag hi L
  have e16 := F16_eq i1 i2
  have e11 := fun a : Dis => F11_eq a a
  by_cases hL : L.length ≤ 70
  · by_cases hd : d.cl.length ≤ 70
    · refine en_seq_reg rfl (by simp; rfl) ?_
      refine en_assoc ?_
      refine en_seq_reg rfl (by simp [h7, F7]; rfl) ?_
      refine en_seq_cond (t := false) (by simp [bV]) (fun h => by simp at h) (fun _ => ?_)
      refine en_seq_skip ?_
      refine en_assoc ?_
      refine en_seq_reg rfl (by simp [h8, e8, e8d, hL, hd]; rfl) ?_
      refine en_seq_cond (t := false) (by simp [bV]) (fun h => by simp at h) (fun _ => ?_)
      refine en_seq_skip ?_
      generalize (beginV lo ag hi L).1 = a at e9
      generalize (beginV lo ag hi L).2 = er at e9
      refine en_seq_reg rfl (by simp [h9, e9]; rfl) ?_
      refine en_seq_reg rfl (by simp [h10, e9]; rfl) ?_
      refine en_assoc ?_
      refine en_seq_reg rfl (by simp [h11, e11]; rfl) ?_
      refine en_seq_cond (t := false) (by simp [bV]) (fun h => by simp at h) (fun _ => ?_)
      refine en_seq_skip ?_
      refine en_assoc ?_
      refine en_seq_reg rfl (by simp; rfl) ?_
      refine en_seq_block (en_loop (kq := ([0, 2, 59, 60, 61], 4)) rfl ?_)
      refine it_inv (H3 lo hi ag d a) (fun k => k ≤ 2) (fun k => 2 - k) ?_ _ 0 _ ?_ ?_ ?_
      · intro k hk
        unfold b3_1 H3
        by_cases hlt : k < 2
        · obtain ⟨x, hx⟩ : ∃ x : Dis, [disC a, disC d][k]? = some (disC x) := by
            rcases (show k = 0 ∨ k = 1 by omega) with rfl | rfl
            · exact ⟨a, rfl⟩
            · exact ⟨d, rfl⟩
          have hlti : (k : Int) < 2 := by omega
          have hw := wrap_in (n := (k : Int) + 1) (by unfold In64; omega)
          have e12 := F12_eq x
          have e14 := F14_eq x
          refine en_seq_reg rfl (by simp [und, List.replicate, hlti]; rfl) ?_
          refine en_seq_cond (t := true) (by simp [bV, hlti]) (fun _ => ?_) (fun h => by simp at h)
          refine en_seq_skip ?_
          refine en_seq_block ?_
          refine en_seq_reg rfl (by simp [hx]; rfl) ?_
          refine en_seq_reg rfl (by simp [h12, e12]; rfl) ?_
          refine en_seq_reg rfl (by simp [h13, e12]; rfl) ?_
          refine en_seq_reg rfl (by simp [h14, h15, e14]; rfl) ?_
          refine en_cond (t := false) (by simp [bV]) (fun h => by simp at h) (fun _ => ?_)
          refine en_skip ?_
          simp only [outOf, thenQ, if_true]
          refine en_reg rfl (by simp; rfl) ?_
          simp only [outOf, thenQ, if_true]
          refine ⟨k + 1, by omega, ?_, by omega⟩
          simp [H3, und, List.replicate, hw]
        · have hlti : ¬ (k : Int) < 2 := by omega
          refine en_seq_reg rfl (by simp [und, List.replicate, hlti]; rfl) ?_
          refine en_seq_cond (t := false) (by simp [bV, hlti]) (fun h => by simp at h) (fun _ => ?_)
          refine en_seq_exit ?_
          simp only [outOf, thenQ, if_true]
          refine en_seq_reg rfl (by simp [h16, h17, e16]; rfl) ?_
          refine en_ret ?_
          simp
      · omega
      · omega
      · simp [H3, und, List.replicate]
    · refine en_seq_reg rfl (by simp; rfl) ?_
      refine en_assoc ?_
      refine en_seq_reg rfl (by simp [h7, F7]; rfl) ?_
      refine en_seq_cond (t := false) (by simp [bV]) (fun h => by simp at h) (fun _ => ?_)
      refine en_seq_skip ?_
      refine en_assoc ?_
      refine en_seq_reg rfl (by simp [h8, e8, e8d, hL, hd]; rfl) ?_
      refine en_seq_cond (t := true) (by simp [bV]) (fun _ => ?_) (fun h => by simp at h)
      refine en_assoc ?_
      refine en_seq_reg rfl (by simp; rfl) ?_
      refine en_seq_ret ?_
      simp
  · refine en_seq_reg rfl (by simp; rfl) ?_
    refine en_assoc ?_
    refine en_seq_reg rfl (by simp [h7, F7]; rfl) ?_
    refine en_seq_cond (t := false) (by simp [bV]) (fun h => by simp at h) (fun _ => ?_)
    refine en_seq_skip ?_
    refine en_assoc ?_
    refine en_seq_reg rfl (by simp [h8, e8, e8d, hL]; rfl) ?_
    refine en_seq_cond (t := true) (by simp [bV]) (fun _ => ?_) (fun h => by simp at h)
    refine en_assoc ?_
    refine en_seq_reg rfl (by simp; rfl) ?_
    refine en_seq_ret ?_
    simp
end
end Go.Proofs.Ytlfnplkjbejekaa
