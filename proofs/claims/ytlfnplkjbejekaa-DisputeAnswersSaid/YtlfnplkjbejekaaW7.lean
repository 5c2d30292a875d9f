import Derived.Test.YtlfnplkjbejekaaW6
import Derived.Lib.ItoaNum
namespace Go.Proofs.Ytlfnplkjbejekaa
open Go.Ab
set_option maxRecDepth 100000
set_option linter.unusedSimpArgs false
set_option linter.unusedVariables false
section
variable {T : Tab}
def roundsV (lo hi : Int) : Int := if hi ≤ lo then 0 else (Lib.bitLen (hi - lo - 1).toNat : Int)
theorem u_sub {a b : Int} (ha : In64 a) (hb : In64 b) (h : b < a) : IntKind.u64.wrap (IntKind.u64.wrap a - IntKind.u64.wrap b) = a - b := by
  unfold In64 at ha hb
  simp only [IntKind.wrap, IntKind.bits, IntKind.signed, Bool.false_and, Bool.false_eq_true, if_false]
  omega
theorem u_one {s : Int} (h : 1 ≤ s) (h2 : s ≤ 18446744073709551616) : IntKind.u64.wrap (s - 1) = s - 1 := by
  simp only [IntKind.wrap, IntKind.bits, IntKind.signed, Bool.false_and, Bool.false_eq_true, if_false]
  omega
theorem i_big {s : Int} (h : 1 ≤ s) (h2 : s ≤ 18446744073709551615) : (IntKind.i64.wrap s ≤ 1 ∧ 0 < IntKind.i64.wrap s) ↔ s = 1 := by
  simp only [IntKind.wrap, IntKind.bits, IntKind.signed, Bool.true_and]
  split
  · rename_i hh; simp at hh; omega
  · rename_i hh; simp at hh; omega
def F33 : List PV → Option PV
  | [.one (.v (.int .u64 x))] => if 0 ≤ x ∧ x ≤ 18446744073709551615 then some (iP (Lib.bitLen x.toNat)) else none
  | _ => none
theorem w16 (lo hi : Int) (h1 : In64 lo) (h2 : In64 hi) (h33 : T 33 = some F33) : execFn tt T kp23 0 Try.f16 [iP lo, iP hi] = some (iP (roundsV lo hi)) := by
  refine fn_ends body16 ?_
  unfold c16
  rw [Try.ntmps16]
  unfold roundsV
  refine en_seq_reg rfl (by simp; rfl) ?_
  refine en_assoc ?_
  refine en_seq_reg rfl (by simp; rfl) ?_
  refine en_seq_cond (by simp; rfl) (fun h => ?_) (fun h => ?_)
  · refine en_assoc ?_
    refine en_seq_reg rfl (by simp; rfl) ?_
    refine en_seq_ret ?_
    simp at h
    simp [h]
  · simp at h
    have hb := u_sub h2 h1 h
    have hs : 1 ≤ hi - lo ∧ hi - lo ≤ 18446744073709551615 := by unfold In64 at h1 h2; omega
    have hc := u_one hs.1 (by omega)
    have hd : 0 ≤ hi - lo - 1 ∧ hi - lo - 1 ≤ 18446744073709551615 := by omega
    have hn : ¬ hi ≤ lo := by omega
    refine en_seq_skip ?_
    have e33 : F33 [.one (.v (.int .u64 (hi - lo - 1)))] = some (iP (Lib.bitLen (hi - lo - 1).toNat)) := by simp only [F33]; rw [if_pos hd]
    refine en_seq_reg rfl (by simp [h33, e33, hb, hc]; rfl) ?_
    refine en_ret ?_
    simp [hn]
theorem bit_iff {s n : Nat} (hs : 1 ≤ s) (h2 : s < 2 ^ 64) : (n < 64 ∧ 2 ^ n < s) ↔ n < Lib.bitLen (s - 1) := by
  unfold Lib.bitLen
  by_cases h0 : s - 1 = 0
  · have : s = 1 := by omega
    subst this
    simp [Lib.bitLenAux_zero]
  · obtain ⟨g1, g2, g3⟩ := Lib.bitLenAux_bounds 64 (s - 1) (by omega) h0
    generalize Lib.bitLenAux 64 (s - 1) = B at g1 g2 g3
    constructor
    · rintro ⟨_, h⟩
      rcases Nat.lt_or_ge n B with h' | h'
      · exact h'
      · have := Nat.pow_le_pow_right (n := 2) (by omega) h'
        omega
    · intro h
      have h3 := Nat.pow_le_pow_right (n := 2) (by omega) (show n ≤ B - 1 by omega)
      refine ⟨?_, by omega⟩
      rcases Nat.lt_or_ge n 64 with h' | h'
      · exact h'
      · have := Nat.pow_le_pow_right (n := 2) (by omega) h'
        omega
def kp17 : Keep := fun _ => ([5, 6], 0)
def H17 (s : Nat) (n : Nat) : ASt := ⟨und 5 ++ [iP n, .one (.v (.int .u64 s))] ++ und 31, []⟩
theorem u_pow {n : Nat} (h : n < 64) : IntKind.u64.wrap (2 ^ n) = (2 : Int) ^ n := by
  have : 2 ^ n < 2 ^ 64 := Nat.pow_lt_pow_right (by omega) h
  simp only [IntKind.wrap, IntKind.bits, IntKind.signed, Bool.false_and, Bool.false_eq_true, if_false]
  have e : (2 : Int) ^ n = ((2 ^ n : Nat) : Int) := by simp
  rw [e]
  generalize 2 ^ n = m at this ⊢
  omega
theorem w17 (lo hi : Int) (h1 : In64 lo) (h2 : In64 hi) : execFn tt T kp17 70 Try.f17 [iP lo, iP hi] = some (iP (roundsV lo hi)) := by
  refine fn_ends body17 ?_
  unfold c17
  rw [Try.ntmps17]
  unfold roundsV
  by_cases hle : hi ≤ lo
  · refine en_seq_reg rfl (by simp; rfl) ?_
    refine en_assoc ?_
    refine en_seq_reg rfl (by simp [hle]; rfl) ?_
    refine en_seq_cond (t := true) (by simp [bV]) (fun _ => ?_) (fun h => by simp at h)
    refine en_assoc ?_
    refine en_seq_reg rfl (by simp; rfl) ?_
    refine en_seq_ret ?_
    simp [hle]
  have hs : 1 ≤ hi - lo ∧ hi - lo ≤ 18446744073709551615 := by unfold In64 at h1 h2; omega
  have hb := u_sub h2 h1 (by omega)
  have hi1 := i_big hs.1 hs.2
  by_cases hone : hi - lo = 1
  · have hw : IntKind.i64.wrap 1 = 1 := by decide
    refine en_seq_reg rfl (by simp; rfl) ?_
    refine en_assoc ?_
    refine en_seq_reg rfl (by simp [hle, hone, hw]; rfl) ?_
    refine en_seq_cond (t := true) (by simp [bV]) (fun _ => ?_) (fun h => by simp at h)
    refine en_assoc ?_
    refine en_seq_reg rfl (by simp; rfl) ?_
    refine en_seq_ret ?_
    simp [hle, hone, Lib.bitLen, Lib.bitLenAux_zero]
  have hcond : ¬ (IntKind.i64.wrap (hi - lo) ≤ 1 ∧ 0 < IntKind.i64.wrap (hi - lo)) := fun h => hone (hi1.1 h)
  simp only [hle, if_false]
  by_cases hA : IntKind.i64.wrap (hi - lo) ≤ 1
  · have hA2 : ¬ 0 < IntKind.i64.wrap (hi - lo) := fun h => hcond ⟨hA, h⟩
    obtain ⟨s, hsn⟩ : ∃ s : Nat, hi - lo = (s : Int) := ⟨(hi - lo).toNat, by omega⟩
    have hsb : 1 ≤ s ∧ s < 2 ^ 64 := by omega
    rw [hsn] at hb
    have hres : (hi - lo - 1).toNat = s - 1 := by omega
    rw [hres]
    have hB := bit_iff (n := 64) hsb.1 hsb.2
    refine en_seq_reg rfl (by simp; rfl) ?_
    refine en_assoc ?_
    refine en_seq_reg rfl (by simp [hle, hA, hA2]; rfl) ?_
    refine en_seq_cond (t := false) (by simp [bV]) (fun h => by simp at h) (fun _ => ?_)
    refine en_seq_skip ?_
    refine en_seq_reg rfl (by simp; rfl) ?_
    refine en_assoc ?_
    refine en_seq_reg rfl (by simp [hb]; rfl) ?_
    refine en_seq_block (en_loop (kq := ([5, 6], 0)) rfl ?_)
    refine it_inv (H17 s) (fun n => n ≤ Lib.bitLen (s - 1)) (fun n => Lib.bitLen (s - 1) - n) ?_ _ 0 _ ?_ ?_ ?_
    · intro n hn
      have hbi := bit_iff (n := n) hsb.1 hsb.2
      unfold b17_1 H17
      refine en_assoc ?_
      by_cases hlt : n < Lib.bitLen (s - 1)
      · obtain ⟨h64, hpw⟩ := hbi.2 hlt
        have h64i : (n : Int) < 64 := by omega
        have hmin : min n 64 = n := by omega
        have hp := u_pow h64
        have hpi : (2 : Int) ^ n < (s : Int) := by exact_mod_cast hpw
        have hw := wrap_in (n := (n : Int) + 1) (by unfold In64; omega)
        refine en_seq_reg rfl (by simp [und, List.replicate, h64i, hmin, IntKind.bits, hp, hpi]; rfl) ?_
        refine en_seq_cond (t := true) (by simp [bV, hpi]) (fun _ => ?_) (fun h => by simp at h)
        refine en_seq_skip ?_
        refine en_block ?_
        refine en_reg rfl (by simp; rfl) ?_
        simp only [outOf, thenQ, if_true]
        refine ⟨n + 1, by omega, ?_, by omega⟩
        simp [H17, und, List.replicate, hw]
      · have hneq : n = Lib.bitLen (s - 1) := by omega
        have hno : ¬ (n < 64 ∧ 2 ^ n < s) := fun h => hlt (hbi.1 h)
        by_cases h64 : n < 64
        · have h64i : (n : Int) < 64 := by omega
          have hmin : min n 64 = n := by omega
          have hp := u_pow h64
          have hpi : ¬ (2 : Int) ^ n < (s : Int) := by have h9 : ¬ 2 ^ n < s := fun h => hno ⟨h64, h⟩
                                                       exact_mod_cast h9
          have hpi' : (s : Int) ≤ 2 ^ n := Int.not_lt.1 hpi
          refine en_seq_reg rfl (by simp [und, List.replicate, h64i, hmin, IntKind.bits, hp, hpi]; rfl) ?_
          refine en_seq_cond (t := false) (by simp [bV, hpi']) (fun h => by simp at h) (fun _ => ?_)
          refine en_seq_exit ?_
          simp only [outOf, thenQ, if_true]
          refine en_seq_reg rfl (by simp; rfl) ?_
          refine en_ret ?_
          simp [hneq]
        · have h64i : ¬ (n : Int) < 64 := by omega
          refine en_seq_reg rfl (by simp [und, List.replicate, h64i]; rfl) ?_
          refine en_seq_cond (t := false) (by simp [bV]) (fun h => by simp at h) (fun _ => ?_)
          refine en_seq_exit ?_
          simp only [outOf, thenQ, if_true]
          refine en_seq_reg rfl (by simp; rfl) ?_
          refine en_ret ?_
          simp [hneq]
    · simp
    · omega
    · simp [H17, und, List.replicate]
  · skip
    obtain ⟨s, hsn⟩ : ∃ s : Nat, hi - lo = (s : Int) := ⟨(hi - lo).toNat, by omega⟩
    have hsb : 1 ≤ s ∧ s < 2 ^ 64 := by omega
    rw [hsn] at hb
    have hres : (hi - lo - 1).toNat = s - 1 := by omega
    rw [hres]
    have hB := bit_iff (n := 64) hsb.1 hsb.2
    refine en_seq_reg rfl (by simp; rfl) ?_
    refine en_assoc ?_
    refine en_seq_reg rfl (by simp [hle, hA]; rfl) ?_
    refine en_seq_cond (t := false) (by simp [bV]) (fun h => by simp at h) (fun _ => ?_)
    refine en_seq_skip ?_
    refine en_seq_reg rfl (by simp; rfl) ?_
    refine en_assoc ?_
    refine en_seq_reg rfl (by simp [hb]; rfl) ?_
    refine en_seq_block (en_loop (kq := ([5, 6], 0)) rfl ?_)
    refine it_inv (H17 s) (fun n => n ≤ Lib.bitLen (s - 1)) (fun n => Lib.bitLen (s - 1) - n) ?_ _ 0 _ ?_ ?_ ?_
    · intro n hn
      have hbi := bit_iff (n := n) hsb.1 hsb.2
      unfold b17_1 H17
      refine en_assoc ?_
      by_cases hlt : n < Lib.bitLen (s - 1)
      · obtain ⟨h64, hpw⟩ := hbi.2 hlt
        have h64i : (n : Int) < 64 := by omega
        have hmin : min n 64 = n := by omega
        have hp := u_pow h64
        have hpi : (2 : Int) ^ n < (s : Int) := by exact_mod_cast hpw
        have hw := wrap_in (n := (n : Int) + 1) (by unfold In64; omega)
        refine en_seq_reg rfl (by simp [und, List.replicate, h64i, hmin, IntKind.bits, hp, hpi]; rfl) ?_
        refine en_seq_cond (t := true) (by simp [bV, hpi]) (fun _ => ?_) (fun h => by simp at h)
        refine en_seq_skip ?_
        refine en_block ?_
        refine en_reg rfl (by simp; rfl) ?_
        simp only [outOf, thenQ, if_true]
        refine ⟨n + 1, by omega, ?_, by omega⟩
        simp [H17, und, List.replicate, hw]
      · have hneq : n = Lib.bitLen (s - 1) := by omega
        have hno : ¬ (n < 64 ∧ 2 ^ n < s) := fun h => hlt (hbi.1 h)
        by_cases h64 : n < 64
        · have h64i : (n : Int) < 64 := by omega
          have hmin : min n 64 = n := by omega
          have hp := u_pow h64
          have hpi : ¬ (2 : Int) ^ n < (s : Int) := by have h9 : ¬ 2 ^ n < s := fun h => hno ⟨h64, h⟩
                                                       exact_mod_cast h9
          have hpi' : (s : Int) ≤ 2 ^ n := Int.not_lt.1 hpi
          refine en_seq_reg rfl (by simp [und, List.replicate, h64i, hmin, IntKind.bits, hp, hpi]; rfl) ?_
          refine en_seq_cond (t := false) (by simp [bV, hpi']) (fun h => by simp at h) (fun _ => ?_)
          refine en_seq_exit ?_
          simp only [outOf, thenQ, if_true]
          refine en_seq_reg rfl (by simp; rfl) ?_
          refine en_ret ?_
          simp [hneq]
        · have h64i : ¬ (n : Int) < 64 := by omega
          refine en_seq_reg rfl (by simp [und, List.replicate, h64i]; rfl) ?_
          refine en_seq_cond (t := false) (by simp [bV]) (fun h => by simp at h) (fun _ => ?_)
          refine en_seq_exit ?_
          simp only [outOf, thenQ, if_true]
          refine en_seq_reg rfl (by simp; rfl) ?_
          refine en_ret ?_
          simp [hneq]
    · simp
    · omega
    · simp [H17, und, List.replicate]
end
end Go.Proofs.Ytlfnplkjbejekaa
