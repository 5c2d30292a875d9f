import Derived.Test.YtipochhfofhofaaDoorS6
namespace Go.Proofs.YtipochhfofhofaaDoor
open Go.RowKit
open Go.Av
set_option maxRecDepth 100000
set_option linter.unusedSimpArgs false
set_option linter.unusedVariables false
variable {G : Glob}
theorem zs_snoc (n : Nat) : zs n ++ [0] = zs (n + 1) := by
  unfold zs
  rw [List.replicate_succ']
def H61a (N : Nat) (l : List Int) : ASt := ⟨[.one (.v (.int .u64 N))] ++ (und 2 ++ ([.one (.ms 5 0 0 l.length 1)] ++ (und 27))), [(5, ⟨0, 1, intsR .u8 l, false, true⟩)]⟩
def H61b (N : Nat) (l : List Int) (i : Int) : ASt := ⟨[.one (.v (.int .u64 N))] ++ (und 2 ++ ([.one (.ms 5 0 0 l.length 1), iP i] ++ (und 26))), [(5, ⟨0, 1, intsR .u8 l, false, true⟩)]⟩
def kp61 : Keep := fun id => if id = 2 then ⟨[0, 3], [5], []⟩ else ⟨[0, 3, 4], [5], []⟩
section
variable {T : Tab}
theorem w61 (N : Nat) (hN : N ≤ 4611686018427387904) : execFn tt T G kp61 false 65 Tryd.f61 [.one (.v (.int .u64 N))] = some (.one (isC .u8 (padL N)), []) := by
  refine fn_ends body61 ?_
  unfold c61
  rw [Tryd.ntmps61]
  have hz : zn N < 64 := by unfold zn; omega
  refine en_seq_reg rfl (by simp; rfl) ?_
  refine en_seq_reg rfl (by simp; rfl) ?_
  refine en_seq_block (en_loop (kq := ⟨[0, 3], [5], []⟩) rfl ?_)
  refine it_inv (fun k => H61a N (128 :: zs k)) (fun k => k ≤ zn N) (fun k => zn N - k) ?_ _ 0 _ ?_ ?_ ?_
  · intro k hk
    unfold b61_1 H61a
    have e1 : IntKind.u64.wrap ((k : Int) + 1) = k + 1 := wrap_u64 (by omega) (by omega)
    have e2 : IntKind.u64.wrap ((N : Int) + (k + 1)) = N + (k + 1) := wrap_u64 (by omega) (by omega)
    have e3 : IntKind.u64.wrap ((N : Int) + (k + 1) + 8) = N + (k + 1) + 8 := wrap_u64 (by omega) (by omega)
    have e4 : ((N : Int) + (k + 1) + 8).tmod 64 = 0 ↔ k = zn N := by
      rw [Int.tmod_eq_emod_of_nonneg (by omega)]
      unfold zn at *
      omega
    by_cases hlt : k = zn N
    · subst hlt
      have e5 := e4.2 rfl
      refine en_assoc ?_
      refine en_seq_reg rfl (by simp [und, List.replicate, e1, e2, e3, e5]; rfl) ?_
      refine en_seq_cond (t := false) (by simp [bV]) (fun h => by simp at h) (fun _ => ?_)
      refine en_seq_exit ?_
      simp only [outOf, thenQ, if_true]
      refine en_assoc ?_
      refine en_seq_reg rfl (by simp; rfl) ?_
      refine en_seq_block (en_loop (kq := ⟨[0, 3, 4], [5], []⟩) rfl ?_)
      refine it_inv (fun j => H61b N (128 :: (zs (zn N) ++ lbs N j)) (7 - j)) (fun j => j ≤ 8) (fun j => 8 - j) ?_ _ 0 _ ?_ ?_ ?_
      · intro j hj
        unfold b61_2 H61b
        by_cases hlt : j < 8
        · have f0 : 0 ≤ 7 - (j : Int) := by omega
          have f0' : (j : Int) ≤ 7 := by omega
          have f1 : IntKind.i64.wrap (8 * (7 - (j : Int))) = 8 * (7 - j) := wrap_i64 (by omega) (by omega)
          have f2 : ¬ 8 * (7 - (j : Int)) < 0 := by omega
          have f3 : (8 * (7 - (j : Int))).toNat = 56 - 8 * j := by omega
          have f5 : min (56 - 8 * j) 64 = 56 - 8 * j := by omega
          have n1 : zn N + j ≤ 140737488355326 := by omega
          have n2 : zn N + j + 1 + 1 ≤ maxLen := by unfold maxLen; omega
          refine en_assoc ?_
          refine en_seq_reg rfl (by simp [und, List.replicate]; rfl) ?_
          refine en_seq_cond (t := true) (by simp [bV, f0, f0']) (fun _ => ?_) (fun h => by simp at h)
          refine en_seq_skip ?_
          refine en_seq_block ?_
          refine en_reg rfl (by simp [f1, f2, f3, f5, IntKind.bits, n1, n2, intsR_snoc]; rfl) ?_
          simp only [outOf, thenQ, if_true]
          refine en_reg rfl (by simp; rfl) ?_
          simp only [outOf, thenQ, if_true]
          have hw : IntKind.i64.wrap (7 - (j : Int) - 1) = 7 - ((j : Int) + 1) := by rw [wrap_i64 (by omega) (by omega)]; omega
          refine ⟨j + 1, by omega, ?_, by omega⟩
          simp [hw, und, List.replicate, lbs, lb]
          omega
        · obtain rfl : j = 8 := by omega
          refine en_assoc ?_
          refine en_seq_reg rfl (by simp [und, List.replicate]; rfl) ?_
          refine en_seq_cond (t := false) (by simp [bV]) (fun h => by simp at h) (fun _ => ?_)
          refine en_seq_exit ?_
          simp only [outOf, thenQ, if_true]
          refine en_seq_reg rfl (by simp; rfl) ?_
          refine en_ret ?_
          simp [padL]
      · omega
      · omega
      · simp [H61b, und, List.replicate, lbs]
    · have e5 : ¬ ((N : Int) + (k + 1) + 8).tmod 64 = 0 := fun h => hlt (e4.1 h)
      have n1 : k ≤ 140737488355326 := by omega
      have n2 : k + 1 + 1 ≤ maxLen := by unfold maxLen; omega
      refine en_assoc ?_
      refine en_seq_reg rfl (by simp [und, List.replicate, e1, e2, e3, e5]; rfl) ?_
      refine en_seq_cond (t := true) (by simp [bV]) (fun _ => ?_) (fun h => by simp at h)
      refine en_seq_skip ?_
      refine en_block ?_
      refine en_reg rfl (by simp [n1, n2, intsR_snoc]; rfl) ?_
      simp only [outOf, thenQ, if_true]
      refine ⟨k + 1, by omega, ?_, by omega⟩
      simp [und, List.replicate, zs_snoc]
  · omega
  · omega
  · simp [H61a, und, List.replicate, zs, intsR]
end
end Go.Proofs.YtipochhfofhofaaDoor
