import Derived.Test.YtipochhfofhofaaDoorS1
namespace Go.Proofs.YtipochhfofhofaaDoor
open Go.RowKit
open Go.Av
set_option maxRecDepth 100000
set_option linter.unusedSimpArgs false
set_option linter.unusedVariables false
variable {G : Glob}
/-- a word of a block, after j bytes -/
def wd (b : Arr 64) (i : Nat) : Nat → Int
  | 0 => 0
  | j + 1 => bits .or .u32 (IntKind.u32.wrap (wd b i j * 2 ^ 8)) (IntKind.u32.wrap (b.at (4 * i + j)))
/-- the first i words -/
def sch1 (b : Arr 64) : Nat → Arr 64
  | 0 => zA 64
  | i + 1 => (sch1 b i).put i (wd b i 4)
theorem sch1_at (b : Arr 64) : ∀ (i j : Nat), i ≤ j → (sch1 b i).at j = 0
  | 0, j, _ => zA_at
  | i + 1, j, h => by
    unfold sch1
    rw [Arr.at_put_ne _ (by omega)]
    exact sch1_at b i j (by omega)
def sg0 (x : Int) : Int := bits .xor .u32 (bits .xor .u32 (rr x 7) (rr x 18)) (x.fdiv (2 ^ 3))
def sg1 (x : Int) : Int := bits .xor .u32 (bits .xor .u32 (rr x 17) (rr x 19)) (x.fdiv (2 ^ 10))
/-- a later word -/
def nxt (w : Arr 64) (i : Nat) : Int := IntKind.u32.wrap (IntKind.u32.wrap (IntKind.u32.wrap (w.at (i - 16) + sg0 (w.at (i - 15))) + w.at (i - 7)) + sg1 (w.at (i - 2)))
def sch2 (w : Arr 64) : Nat → Arr 64
  | 0 => w
  | k + 1 => (sch2 w k).put (16 + k) (nxt (sch2 w k) (16 + k))
def sched (b : Arr 64) : Arr 64 := sch2 (sch1 b 16) 48
abbrev bx (n : Nat) (cs : List Cell) : Box := ⟨0, n, [cs], false, false⟩
def H65b (b : Arr 64) (i : Nat) (w : Arr 64) (j : Nat) : ASt := ⟨und 1 ++ ([.ptr 1 0 0 0 64, .ptr 2 0 0 0 64, .ptr 3 0 0 0 64, iP i] ++ (und 4 ++ ([iP i] ++ (und 2 ++ ([iP j] ++ (und 72)))))), [(1, bx 64 (arC .u8 b)), (2, bx 64 (arC .u32 (zA 64))), (3, bx 64 (arC .u32 w))]⟩
def H65a (b : Arr 64) (w : Arr 64) (i : Nat) : ASt := ⟨und 1 ++ ([.ptr 1 0 0 0 64, .ptr 2 0 0 0 64, .ptr 3 0 0 0 64] ++ (und 5 ++ ([iP i] ++ (und 75)))), [(1, bx 64 (arC .u8 b)), (2, bx 64 (arC .u32 (zA 64))), (3, bx 64 (arC .u32 w))]⟩
def H65c (b : Arr 64) (w : Arr 64) (i : Nat) : ASt := ⟨und 1 ++ ([.ptr 1 0 0 0 64, .ptr 2 0 0 0 64, .ptr 3 0 0 0 64] ++ (und 2 ++ ([iP i] ++ (und 78)))), [(1, bx 64 (arC .u8 b)), (2, bx 64 (arC .u32 (zA 64))), (3, bx 64 (arC .u32 w))]⟩
def kp65 : Keep := fun id => if id = 3 then ⟨[1, 2, 3, 9], [1, 2, 3], []⟩ else if id = 6 then ⟨[1, 2, 3, 4, 9, 12], [1, 2, 3], []⟩ else ⟨[1, 2, 3, 6], [1, 2, 3], []⟩
section
variable {T : Tab}
theorem w65 (b : Arr 64) (h66 : T 66 = some G66) : execFn tt T G kp65 false 65 Tryd.f65 [.agg (arC .u8 b)] = some (.agg (arC .u32 (sched b)), []) := by
  refine fn_ends body65 ?_
  unfold c65
  rw [Tryd.ntmps65]
  refine en_seq_reg rfl (by simp; rfl) ?_
  refine en_seq_reg rfl (by simp; rfl) ?_
  refine en_assoc ?_
  refine en_seq_reg rfl (by simp; rfl) ?_
  refine en_seq_block (en_loop (kq := ⟨[1, 2, 3, 9], [1, 2, 3], []⟩) rfl ?_)
  refine it_inv (fun i => H65a b (sch1 b i) i) (fun i => i ≤ 16) (fun i => 16 - i) ?_ _ 0 _ ?_ ?_ ?_
  · intro i hi
    unfold b65_1 H65a
    by_cases hlt : i < 16
    · have hz : (i : Int) < 16 := by omega
      refine en_seq_reg rfl (by simp [und, List.replicate]; rfl) ?_
      refine en_seq_cond (t := true) (by simp [bV, hz]) (fun _ => ?_) (fun h => by simp at h)
      refine en_seq_skip ?_
      refine en_seq_block ?_
      refine en_seq_reg rfl (by simp; rfl) ?_
      refine en_seq_reg rfl (by simp; rfl) ?_
      refine en_block (en_loop (kq := ⟨[1, 2, 3, 4, 9, 12], [1, 2, 3], []⟩) rfl ?_)
      refine it_inv (fun j => H65b b i ((sch1 b i).put i (wd b i j)) j) (fun j => j ≤ 4) (fun j => 4 - j) ?_ _ 0 _ ?_ ?_ ?_
      · intro j hj
        unfold b65_2 H65b
        by_cases hlt' : j < 4
        · have hz' : (j : Int) < 4 := by omega
          have e1 : IntKind.i64.wrap (4 * (i : Int)) = 4 * i := wrap_i64 (by omega) (by omega)
          have e2 : IntKind.i64.wrap (4 * (i : Int) + j) = 4 * i + j := wrap_i64 (by omega) (by omega)
          have e3 : (4 * (i : Int) + j).toNat = 4 * i + j := by omega
          have e4 : 0 ≤ 4 * (i : Int) + j := by omega
          have e5 : 4 * i + j < 64 := by omega
          have e6 : i < 64 := by omega
          refine en_seq_reg rfl (by simp [und, List.replicate]; rfl) ?_
          refine en_seq_cond (t := true) (by simp [bV, hz']) (fun _ => ?_) (fun h => by simp at h)
          refine en_seq_skip ?_
          refine en_seq_block ?_
          refine en_seq_reg rfl (by simp; rfl) ?_
          have e7 : i ≤ 63 := by omega
          refine en_draw rfl (by simp [e1, e2, e3, e4, e5, e6, e7, arC_get, arC_sub, arC_put, Arr.at_put, Arr.put_put, IntKind.bits]; exact ⟨rfl, rfl⟩) (by kernel_rfl) ?_
          simp only [outOf, thenQ, if_true]
          refine en_reg rfl (by simp; rfl) ?_
          simp only [outOf, thenQ, if_true]
          have hw : IntKind.i64.wrap ((j : Int) + 1) = j + 1 := wrap_i64 (by omega) (by omega)
          refine ⟨j + 1, by omega, ?_, by omega⟩
          simp [hw, und, List.replicate, wd]
        · have hz' : ¬ (j : Int) < 4 := by omega
          obtain rfl : j = 4 := by omega
          refine en_seq_reg rfl (by simp [und, List.replicate]; rfl) ?_
          refine en_seq_cond (t := false) (by simp [bV, hz']) (fun h => by simp at h) (fun _ => ?_)
          refine en_seq_exit ?_
          simp only [outOf, thenQ, if_true]
          refine en_reg rfl (by simp; rfl) ?_
          simp only [outOf, thenQ, if_true]
          have hw : IntKind.i64.wrap ((i : Int) + 1) = i + 1 := wrap_i64 (by omega) (by omega)
          refine ⟨i + 1, by omega, ?_, by omega⟩
          simp [hw, und, List.replicate, sch1]
      · omega
      · omega
      · simp [H65b, und, List.replicate, wd]
        have := Arr.put_at (sch1 b i) (i := i) (by omega)
        rw [sch1_at b i i (by omega)] at this
        rw [this]
    · have hz : ¬ (i : Int) < 16 := by omega
      obtain rfl : i = 16 := by omega
      refine en_seq_reg rfl (by simp [und, List.replicate]; rfl) ?_
      refine en_seq_cond (t := false) (by simp [bV, hz]) (fun h => by simp at h) (fun _ => ?_)
      refine en_seq_exit ?_
      simp only [outOf, thenQ, if_true]
      refine en_assoc ?_
      refine en_seq_reg rfl (by simp; rfl) ?_
      refine en_seq_block (en_loop (kq := ⟨[1, 2, 3, 6], [1, 2, 3], []⟩) rfl ?_)
      refine it_inv (fun i => H65c b (sch2 (sch1 b 16) (i - 16)) i) (fun i => 16 ≤ i ∧ i ≤ 64) (fun i => 64 - i) ?_ _ 16 _ ?_ ?_ ?_
      · rintro i ⟨hi, hi'⟩
        unfold b65_3 H65c
        by_cases hlt : i < 64
        · have hz : (i : Int) < 64 := by omega
          have f1 : IntKind.i64.wrap ((i : Int) - 15) = i - 15 := wrap_i64 (by omega) (by omega)
          have f2 : IntKind.i64.wrap ((i : Int) - 2) = i - 2 := wrap_i64 (by omega) (by omega)
          have f3 : IntKind.i64.wrap ((i : Int) - 16) = i - 16 := wrap_i64 (by omega) (by omega)
          have f4 : IntKind.i64.wrap ((i : Int) - 7) = i - 7 := wrap_i64 (by omega) (by omega)
          have g1 : ((i : Int) - 15).toNat = i - 15 := by omega
          have g2 : ((i : Int) - 2).toNat = i - 2 := by omega
          have g3 : ((i : Int) - 16).toNat = i - 16 := by omega
          have g4 : ((i : Int) - 7).toNat = i - 7 := by omega
          have k1 : (15 : Int) ≤ i := by omega
          have k2 : (2 : Int) ≤ i := by omega
          have k3 : (16 : Int) ≤ i := by omega
          have k4 : (7 : Int) ≤ i := by omega
          have l1 : i - 15 < 64 := by omega
          have l2 : i - 2 < 64 := by omega
          have l3 : i - 16 < 64 := by omega
          have l4 : i - 7 < 64 := by omega
          have l5 : i ≤ 63 := by omega
          refine en_assoc ?_
          refine en_seq_reg rfl (by simp [und, List.replicate]; rfl) ?_
          refine en_seq_cond (t := true) (by simp [bV, hz]) (fun _ => ?_) (fun h => by simp at h)
          refine en_seq_skip ?_
          refine en_seq_block ?_
          refine en_seq_draw rfl (by simp [f1, g1, k1, l1, h66, G66, IntKind.bits]; exact ⟨rfl, rfl⟩) (by kernel_rfl) ?_
          refine en_seq_draw rfl (by simp [f2, g2, k2, l2, h66, G66, IntKind.bits]; exact ⟨rfl, rfl⟩) (by kernel_rfl) ?_
          refine en_draw rfl (by simp [f3, g3, k3, l3, f4, g4, k4, l4, l5, hlt, arC_put]; exact ⟨rfl, rfl⟩) (by kernel_rfl) ?_
          simp only [outOf, thenQ, if_true]
          refine en_reg rfl (by simp; rfl) ?_
          simp only [outOf, thenQ, if_true]
          have hw : IntKind.i64.wrap ((i : Int) + 1) = i + 1 := wrap_i64 (by omega) (by omega)
          have hk : i + 1 - 16 = (i - 16) + 1 := by omega
          have hk2 : 16 + (i - 16) = i := by omega
          refine ⟨i + 1, by omega, ?_, by omega⟩
          simp [hw, und, List.replicate, hk, sch2, hk2, nxt, sg0, sg1]
        · have hz : ¬ (i : Int) < 64 := by omega
          obtain rfl : i = 64 := by omega
          refine en_assoc ?_
          refine en_seq_reg rfl (by simp [und, List.replicate]; rfl) ?_
          refine en_seq_cond (t := false) (by simp [bV, hz]) (fun h => by simp at h) (fun _ => ?_)
          refine en_seq_exit ?_
          simp only [outOf, thenQ, if_true]
          refine en_seq_reg rfl (by simp; rfl) ?_
          refine en_ret ?_
          simp [sched]
      · omega
      · omega
      · simp [H65c, und, List.replicate, sch2]
  · omega
  · omega
  · simp [H65a, und, List.replicate, sch1]
end
end Go.Proofs.YtipochhfofhofaaDoor
