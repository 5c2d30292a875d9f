import Derived.Test.YtipochhfofhofaaDoorS2
namespace Go.Proofs.YtipochhfofhofaaDoor
open Go.RowKit
open Go.Av
set_option maxRecDepth 100000
set_option linter.unusedSimpArgs false
set_option linter.unusedVariables false
variable {G : Glob}
/-! words as bit vectors -/
abbrev bv (x : Int) : BitVec 32 := BitVec.ofInt 32 x
theorem wrap_u32 (x : Int) : IntKind.u32.wrap x = x % 2 ^ 32 := by simp [IntKind.wrap, IntKind.signed, IntKind.bits]
theorem bv_wrap (x : Int) : bv (IntKind.u32.wrap x) = bv x := by
  rw [wrap_u32]
  apply BitVec.eq_of_toNat_eq
  simp [BitVec.toNat_ofInt]
theorem bv_or (x y : Int) : bv (bits .or .u32 x y) = bv x ||| bv y := by
  show bv (IntKind.u32.wrap ((bv x ||| bv y).toNat : Nat)) = _
  rw [bv_wrap]
  generalize bv x ||| bv y = r
  show BitVec.ofInt 32 (r.toNat : Int) = r
  rw [BitVec.ofInt_natCast, BitVec.ofNat_toNat]
  simp
theorem or_congr {x x' y y' : Int} (h1 : bv x = bv x') (h2 : bv y = bv y') : bits .or .u32 x y = bits .or .u32 x' y' := by
  show IntKind.u32.wrap ((bv x ||| bv y).toNat : Nat) = IntKind.u32.wrap ((bv x' ||| bv y').toNat : Nat)
  rw [h1, h2]
theorem bv_shl (x : Int) (k : Nat) (h : BitVec.ofInt 32 (2 ^ k) = BitVec.twoPow 32 k) : bv (x * 2 ^ k) = bv x <<< k := by
  rw [BitVec.shiftLeft_eq_mul_twoPow, ← h]
  exact BitVec.ofInt_mul _ _
/-- the reference's word -/
def wr (b : Arr 64) (i : Nat) : Int := bits .or .u32 (bits .or .u32 (bits .or .u32 (IntKind.u32.wrap (IntKind.u32.wrap (b.at (4 * i)) * 2 ^ 24)) (IntKind.u32.wrap (IntKind.u32.wrap (b.at (4 * i + 1)) * 2 ^ 16))) (IntKind.u32.wrap (IntKind.u32.wrap (b.at (4 * i + 2)) * 2 ^ 8))) (IntKind.u32.wrap (b.at (4 * i + 3)))
theorem wr_wd (b : Arr 64) (i : Nat) : wr b i = wd b i 4 := by
  unfold wr
  simp only [wd]
  refine or_congr ?_ rfl
  have e8 := fun x => bv_shl x 8 (by decide)
  have e16 := fun x => bv_shl x 16 (by decide)
  have e24 := fun x => bv_shl x 24 (by decide)
  simp only [bv_or, bv_wrap, e8, e16, e24]
  have h0 : (bv 0) <<< 8 = 0#32 := by decide
  simp only [h0, BitVec.shiftLeft_or_distrib, ← BitVec.shiftLeft_add, BitVec.zero_or, Nat.add_zero]
def H67a (b : Arr 64) (w : Arr 64) (i : Nat) : ASt := ⟨und 1 ++ ([.ptr 1 0 0 0 64, .ptr 2 0 0 0 64, .ptr 3 0 0 0 64, iP i] ++ (und 92)), [(1, bx 64 (arC .u8 b)), (2, bx 64 (arC .u32 (zA 64))), (3, bx 64 (arC .u32 w))]⟩
def H67c (b : Arr 64) (w : Arr 64) (i : Nat) : ASt := ⟨und 1 ++ ([.ptr 1 0 0 0 64, .ptr 2 0 0 0 64, .ptr 3 0 0 0 64] ++ (und 1 ++ ([iP i] ++ (und 91)))), [(1, bx 64 (arC .u8 b)), (2, bx 64 (arC .u32 (zA 64))), (3, bx 64 (arC .u32 w))]⟩
def kp67 : Keep := fun id => if id = 3 then ⟨[1, 2, 3, 4], [1, 2, 3], []⟩ else ⟨[1, 2, 3, 5], [1, 2, 3], []⟩
section
variable {T : Tab}
theorem w67 (b : Arr 64) (h69 : T 69 = some G66) : execFn tt T G kp67 false 65 Tryd.f67 [.agg (arC .u8 b)] = some (.agg (arC .u32 (sched b)), []) := by
  refine fn_ends body67 ?_
  unfold c67
  rw [Tryd.ntmps67]
  refine en_seq_reg rfl (by simp; rfl) ?_
  refine en_seq_reg rfl (by simp; rfl) ?_
  refine en_assoc ?_
  refine en_seq_reg rfl (by simp; rfl) ?_
  refine en_seq_block (en_loop (kq := ⟨[1, 2, 3, 4], [1, 2, 3], []⟩) rfl ?_)
  refine it_inv (fun i => H67a b (sch1 b i) i) (fun i => i ≤ 16) (fun i => 16 - i) ?_ _ 0 _ ?_ ?_ ?_
  · intro i hi
    unfold b67_1 H67a
    by_cases hlt : i < 16
    · have hz : (i : Int) < 16 := by omega
      have e0 : IntKind.i64.wrap (4 * (i : Int)) = 4 * i := wrap_i64 (by omega) (by omega)
      have e1 : IntKind.i64.wrap (4 * (i : Int) + 1) = 4 * i + 1 := wrap_i64 (by omega) (by omega)
      have e2 : IntKind.i64.wrap (4 * (i : Int) + 2) = 4 * i + 2 := wrap_i64 (by omega) (by omega)
      have e3 : IntKind.i64.wrap (4 * (i : Int) + 3) = 4 * i + 3 := wrap_i64 (by omega) (by omega)
      have f0 : (4 * (i : Int)).toNat = 4 * i := by omega
      have f1 : (4 * (i : Int) + 1).toNat = 4 * i + 1 := by omega
      have f2 : (4 * (i : Int) + 2).toNat = 4 * i + 2 := by omega
      have f3 : (4 * (i : Int) + 3).toNat = 4 * i + 3 := by omega
      have g0 : 0 ≤ 4 * (i : Int) := by omega
      have g1 : 0 ≤ 4 * (i : Int) + 1 := by omega
      have g2 : 0 ≤ 4 * (i : Int) + 2 := by omega
      have g3 : 0 ≤ 4 * (i : Int) + 3 := by omega
      have l0 : 4 * i < 64 := by omega
      have l1 : 4 * i + 1 < 64 := by omega
      have l2 : 4 * i + 2 < 64 := by omega
      have l3 : 4 * i + 3 < 64 := by omega
      have l4 : i < 64 := by omega
      have l5 : i ≤ 63 := by omega
      refine en_assoc ?_
      refine en_seq_reg rfl (by simp [und, List.replicate]; rfl) ?_
      refine en_seq_cond (t := true) (by simp [bV, hz]) (fun _ => ?_) (fun h => by simp at h)
      refine en_seq_skip ?_
      refine en_seq_block ?_
      refine en_draw rfl (by simp [e0, e1, e2, e3, f0, f1, f2, f3, g0, g1, g2, g3, l0, l1, l2, l3, l4, l5, arC_put, IntKind.bits]; exact ⟨rfl, rfl⟩) (by kernel_rfl) ?_
      simp only [outOf, thenQ, if_true]
      refine en_reg rfl (by simp; rfl) ?_
      simp only [outOf, thenQ, if_true]
      have hw : IntKind.i64.wrap ((i : Int) + 1) = i + 1 := wrap_i64 (by omega) (by omega)
      have hr := wr_wd b i
      unfold wr at hr
      refine ⟨i + 1, by omega, ?_, by omega⟩
      simp [hw, und, List.replicate, sch1, ← hr]
    · have hz : ¬ (i : Int) < 16 := by omega
      obtain rfl : i = 16 := by omega
      refine en_assoc ?_
      refine en_seq_reg rfl (by simp [und, List.replicate]; rfl) ?_
      refine en_seq_cond (t := false) (by simp [bV, hz]) (fun h => by simp at h) (fun _ => ?_)
      refine en_seq_exit ?_
      simp only [outOf, thenQ, if_true]
      refine en_assoc ?_
      refine en_seq_reg rfl (by simp; rfl) ?_
      refine en_seq_block (en_loop (kq := ⟨[1, 2, 3, 5], [1, 2, 3], []⟩) rfl ?_)
      refine it_inv (fun i => H67c b (sch2 (sch1 b 16) (i - 16)) i) (fun i => 16 ≤ i ∧ i ≤ 64) (fun i => 64 - i) ?_ _ 16 _ ?_ ?_ ?_
      · rintro i ⟨hi, hi'⟩
        unfold b67_2 H67c
        by_cases hlt : i < 64
        · have hz : (i : Int) < 64 := by omega
          have f1 : IntKind.i64.wrap ((i : Int) - 15) = i - 15 := wrap_i64 (by omega) (by omega)
          have f2 : IntKind.i64.wrap ((i : Int) - 2) = i - 2 := wrap_i64 (by omega) (by omega)
          have f3 : IntKind.i64.wrap ((i : Int) - 16) = i - 16 := wrap_i64 (by omega) (by omega)
          have f4 : IntKind.i64.wrap ((i : Int) - 7) = i - 7 := wrap_i64 (by omega) (by omega)
          have g1 : ((i : Int) - 15).toNat = i - 15 := by omega
          have g2 : ((i : Int) - 2).toNat = i - 2 := by omega
          have g3 : ((i : Int) - 16).toNat = i - 16 := by omega
          have g4 : ((i : Int) - 7).toNat = i - 7 := by omega
          have k1 : (15 : Int) ≤ i := by omega
          have k2 : (2 : Int) ≤ i := by omega
          have k3 : (16 : Int) ≤ i := by omega
          have k4 : (7 : Int) ≤ i := by omega
          have l1 : i - 15 < 64 := by omega
          have l2 : i - 2 < 64 := by omega
          have l3 : i - 16 < 64 := by omega
          have l4 : i - 7 < 64 := by omega
          have l5 : i ≤ 63 := by omega
          refine en_assoc ?_
          refine en_seq_reg rfl (by simp [und, List.replicate]; rfl) ?_
          refine en_seq_cond (t := true) (by simp [bV, hz]) (fun _ => ?_) (fun h => by simp at h)
          refine en_seq_skip ?_
          refine en_seq_block ?_
          refine en_seq_draw rfl (by simp [f1, g1, k1, l1, h69, G66, IntKind.bits]; exact ⟨rfl, rfl⟩) (by kernel_rfl) ?_
          refine en_seq_draw rfl (by simp [f2, g2, k2, l2, h69, G66, IntKind.bits]; exact ⟨rfl, rfl⟩) (by kernel_rfl) ?_
          refine en_draw rfl (by simp [f3, g3, k3, l3, f4, g4, k4, l4, l5, hlt, arC_put]; exact ⟨rfl, rfl⟩) (by kernel_rfl) ?_
          simp only [outOf, thenQ, if_true]
          refine en_reg rfl (by simp; rfl) ?_
          simp only [outOf, thenQ, if_true]
          have hw : IntKind.i64.wrap ((i : Int) + 1) = i + 1 := wrap_i64 (by omega) (by omega)
          have hk : i + 1 - 16 = (i - 16) + 1 := by omega
          have hk2 : 16 + (i - 16) = i := by omega
          refine ⟨i + 1, by omega, ?_, by omega⟩
          simp [hw, und, List.replicate, hk, sch2, hk2, nxt, sg0, sg1]
        · have hz : ¬ (i : Int) < 64 := by omega
          obtain rfl : i = 64 := by omega
          refine en_assoc ?_
          refine en_seq_reg rfl (by simp [und, List.replicate]; rfl) ?_
          refine en_seq_cond (t := false) (by simp [bV, hz]) (fun h => by simp at h) (fun _ => ?_)
          refine en_seq_exit ?_
          simp only [outOf, thenQ, if_true]
          refine en_seq_reg rfl (by simp; rfl) ?_
          refine en_ret ?_
          simp [sched]
      · omega
      · omega
      · simp [H67c, und, List.replicate, sch2]
  · omega
  · omega
  · simp [H67a, und, List.replicate, sch1]
end
end Go.Proofs.YtipochhfofhofaaDoor
