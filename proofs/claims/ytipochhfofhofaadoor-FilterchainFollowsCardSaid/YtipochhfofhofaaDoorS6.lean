import Derived.Test.YtipochhfofhofaaDoorS5
namespace Go.Proofs.YtipochhfofhofaaDoor
open Go.RowKit
open Go.Av
set_option maxRecDepth 100000
set_option linter.unusedSimpArgs false
set_option linter.unusedVariables false
variable {G : Glob}
def zn (N : Nat) : Nat := (64 - (N + 9) % 64) % 64
def lb (N : Nat) (i : Nat) : Int := IntKind.u8.wrap ((IntKind.u64.wrap (8 * (N : Int))).fdiv (2 ^ (56 - 8 * i)))
def lbs (N : Nat) : Nat → List Int
  | 0 => []
  | i + 1 => lbs N i ++ [lb N i]
def padL (N : Nat) : List Int := 128 :: (zs (zn N) ++ lbs N 8)
theorem wrap_u64 {x : Int} (h1 : 0 ≤ x) (h2 : x < 18446744073709551616) : IntKind.u64.wrap x = x := by
  simp [IntKind.wrap, IntKind.signed, IntKind.bits]; omega
theorem rep0 (n : Nat) (k : IntKind) : List.replicate n [Cell.v (.int k 0)] = intsR k (zs n) := by simp [intsR, zs]
@[simp] theorem lbs_len (N : Nat) : ∀ i, (lbs N i).length = i
  | 0 => rfl
  | i + 1 => by simp [lbs, lbs_len N i]
theorem intsR_snoc (k : IntKind) (l : List Int) (x : Int) : intsR k l ++ [[.v (.int k x)]] = intsR k (l ++ [x]) := by simp [intsR]
@[simp] theorem intsR_getE {k : IntKind} {l : List Int} {i : Nat} (h : i < (intsR k l).length) : (intsR k l)[i] = [.v (.int k (l[i]'(by simpa using h)))] := by simp [intsR]
theorem zs_one (n : Nat) : zs (1 + n) = 0 :: zs n := by rw [Nat.add_comm]; rfl
def H59 (N : Nat) (l : List Int) (i : Nat) : ASt := ⟨[.one (.v (.int .u64 N))] ++ (und 3 ++ ([.one (.ms 15 0 0 l.length 1)] ++ (und 13 ++ ([iP i] ++ (und 14))))), [(15, ⟨0, 1, intsR .u8 l, false, true⟩)]⟩
def kp59 : Keep := fun _ => ⟨[0, 4, 18], [15], []⟩
section
variable {T : Tab}
theorem w59 (N : Nat) (hN : N ≤ 4611686018427387904) : execFn tt T G kp59 false 65 Tryd.f59 [.one (.v (.int .u64 N))] = some (.one (isC .u8 (padL N)), []) := by
  refine fn_ends body59 ?_
  unfold c59
  rw [Tryd.ntmps59]
  have e1 : IntKind.u64.wrap ((N : Int) + 9) = N + 9 := wrap_u64 (by omega) (by omega)
  have e2 : (IntKind.u64.wrap (64 - ((N : Int) + 9).tmod 64)).tmod 64 = (zn N : Int) := by
    rw [Int.tmod_eq_emod_of_nonneg (a := (N : Int) + 9) (by omega), wrap_u64 (by omega) (by omega), Int.tmod_eq_emod_of_nonneg (by omega)]
    unfold zn
    omega
  have hz : zn N < 64 := by unfold zn; omega
  refine en_seq_reg rfl (by simp; rfl) ?_
  have e3 : IntKind.u64.wrap (1 + (zn N : Int)) = 1 + zn N := wrap_u64 (by omega) (by omega)
  have e4 : IntKind.u64.wrap (9 + (zn N : Int)) = 9 + zn N := wrap_u64 (by omega) (by omega)
  have e5 : (1 + (zn N : Int)).toNat = 1 + zn N := by omega
  have e6 : (9 + (zn N : Int)).toNat = 9 + zn N := by omega
  have e7 : 0 ≤ 1 + (zn N : Int) := by omega
  have e8 : 0 ≤ 9 + (zn N : Int) := by omega
  refine en_seq_reg rfl (by simp [e1, e2]; rfl) ?_
  have m1 : 9 + zn N ≤ 140737488355328 := by omega
  have m2 : 9 + zn N ≤ 9223372036854775807 := by omega
  have m3 : 0 < 1 + zn N := by omega
  refine en_seq_reg rfl (by simp [e3, e4, e5, e6, e7, e8, m1, m2, rep0, zs_one]; rfl) ?_
  refine en_seq_reg rfl (by simp [intsR_set, m3]; rfl) ?_
  refine en_assoc ?_
  refine en_seq_reg rfl (by simp; rfl) ?_
  refine en_seq_block (en_loop (kq := ⟨[0, 4, 18], [15], []⟩) rfl ?_)
  refine it_inv (fun i => H59 N (128 :: (zs (zn N) ++ lbs N i)) i) (fun i => i ≤ 8) (fun i => 8 - i) ?_ _ 0 _ ?_ ?_ ?_
  · intro i hi
    unfold b59_1 H59
    by_cases hlt : i < 8
    · have hz : (i : Int) < 8 := by omega
      have f1 : IntKind.i64.wrap (8 * (i : Int)) = 8 * i := wrap_i64 (by omega) (by omega)
      have f2 : IntKind.i64.wrap (56 - 8 * (i : Int)) = 56 - 8 * i := wrap_i64 (by omega) (by omega)
      have f3 : (56 - 8 * (i : Int)).toNat = 56 - 8 * i := by omega
      have f4 : ¬ 56 - 8 * (i : Int) < 0 := by omega
      have f5 : min (56 - 8 * i) 64 = 56 - 8 * i := by omega
      refine en_seq_reg rfl (by simp [und, List.replicate]; rfl) ?_
      refine en_seq_cond (t := true) (by simp [bV, hz]) (fun _ => ?_) (fun h => by simp at h)
      refine en_seq_skip ?_
      refine en_seq_block ?_
      refine en_seq_reg rfl (by simp; rfl) ?_
      have n1 : zn N + i ≤ 140737488355326 := by omega
      have n2 : zn N + i + 1 + 1 ≤ maxLen := by unfold maxLen; omega
      refine en_reg rfl (by simp [f1, f2, f3, f4, f5, IntKind.bits, n1, n2, intsR_snoc]; rfl) ?_
      simp only [outOf, thenQ, if_true]
      refine en_reg rfl (by simp; rfl) ?_
      simp only [outOf, thenQ, if_true]
      have hw : IntKind.i64.wrap ((i : Int) + 1) = i + 1 := wrap_i64 (by omega) (by omega)
      refine ⟨i + 1, by omega, ?_, by omega⟩
      simp [hw, und, List.replicate, lbs, lb]
      omega
    · have hz : ¬ (i : Int) < 8 := by omega
      obtain rfl : i = 8 := by omega
      refine en_seq_reg rfl (by simp [und, List.replicate]; rfl) ?_
      refine en_seq_cond (t := false) (by simp [bV, hz]) (fun h => by simp at h) (fun _ => ?_)
      refine en_seq_exit ?_
      simp only [outOf, thenQ, if_true]
      refine en_seq_reg rfl (by simp; rfl) ?_
      refine en_ret ?_
      simp [padL]
  · omega
  · omega
  · simp [H59, und, List.replicate, lbs, Nat.add_comm]
end
end Go.Proofs.YtipochhfofhofaaDoor
