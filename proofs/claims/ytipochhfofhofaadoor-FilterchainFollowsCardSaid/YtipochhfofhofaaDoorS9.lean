import Derived.Test.YtipochhfofhofaaDoorS8
namespace Go.Proofs.YtipochhfofhofaaDoor
open Go.RowKit
open Go.Av
set_option maxRecDepth 100000
set_option linter.unusedSimpArgs false
set_option linter.unusedVariables false
variable {G : Glob}
def blk (m : List Int) (i : Nat) : Arr 64 := ⟨(m.drop (64 * i)).take 64 ++ zs (64 - ((m.drop (64 * i)).take 64).length), by simp; omega⟩
def hs (m : List Int) : Nat → Arr 8
  | 0 => iniA
  | i + 1 => comp (hs m i) (blk m i)
def ob (s : Arr 8) (i : Nat) : Int := IntKind.u8.wrap ((s.at (i / 4)).fdiv (2 ^ (24 - i % 4 * 8)))
def dg (s : Arr 8) : Nat → Arr 32
  | 0 => zA 32
  | i + 1 => (dg s i).put i (ob s i)
def msg (b : List Int) : List Int := b ++ padL b.length
def sumL (b : List Int) : Arr 32 := dg (hs (msg b) ((msg b).length / 64)) 32
theorem range2 : List.range 2 = [0, 1] := rfl
theorem intsR_allT (k : IntKind) (m : List Int) : (∀ l : List Cell, l ∈ intsR k m → l.length = 1) = True := eq_true (fun l h => intsR_all l h)
theorem padL_len (N : Nat) : (padL N).length = 9 + zn N := by simp [padL]; omega
def H49a (m : List Int) (s : Arr 8) (i : Nat) : ASt := ⟨und 2 ++ ([.ptr 2 0 0 0 32, .one (isC .u8 m), .ptr 4 0 0 0 8] ++ (und 13 ++ ([iP (m.length / 64 : Nat), iP i] ++ (und 28)))), [(2, bx 32 (arC .u8 (zA 32))), (4, bx 8 (arC .u32 s))]⟩
def H49b (s : Arr 8) (h : Arr 32) (i : Nat) : ASt := ⟨und 2 ++ ([.ptr 2 0 0 0 32] ++ (und 1 ++ ([.ptr 4 0 0 0 8] ++ (und 1 ++ ([.ptr 6 0 0 0 32] ++ (und 24 ++ ([iP i] ++ (und 16)))))))), [(2, bx 32 (arC .u8 (zA 32))), (4, bx 8 (arC .u32 s)), (6, bx 32 (arC .u8 h))]⟩
def kp49 : Keep := fun id => if id = 4 then ⟨[2, 3, 4, 18, 19], [2, 4], []⟩ else ⟨[2, 4, 6, 31], [2, 4, 6], []⟩
section
variable {T : Tab}
set_option maxHeartbeats 1000000 in
theorem w49 (b : List Int) (hb : b.length ≤ 1099511627776) (g0 : G 0 = some (arC .u32 iniA)) (h58 : T 58 = some G58) (h59 : T 59 = some G59) (h60 : T 60 = some G60) : execFn tt T G kp49 false (b.length + 200) Tryd.f49 [.one (isC .u8 b)] = some (.agg (arC .u8 (sumL b)), []) := by
  refine fn_ends body49 ?_
  unfold c49
  rw [Tryd.ntmps49]
  have hz : zn b.length < 64 := by unfold zn; omega
  have hp := padL_len b.length
  have e59 := G59_eq (N := b.length) (by omega)
  have e58 := G58_eq (Ls := [b, padL b.length]) (by simp [hp]; omega) (by simp)
  have hm : [b, padL b.length].flatten = msg b := by simp [msg]
  rw [hm] at e58
  simp [rows] at e58
  have ew : IntKind.u64.wrap (b.length : Int) = b.length := wrap_u64 (by omega) (by omega)
  refine en_seq_reg rfl (by simp; rfl) ?_
  refine en_seq_reg rfl (by simp [ew, h59, e59, h58, e58, range2]; rfl) ?_
  refine en_seq_reg rfl (by simp [g0]; rfl) ?_
  have hml : (msg b).length = b.length + 9 + zn b.length := by unfold msg; simp [hp]; omega
  have hwl : IntKind.i64.wrap (((msg b).length : Int) / 64) = ((msg b).length : Int) / 64 := wrap_i64 (by omega) (by omega)
  generalize hM : msg b = m at *
  refine en_assoc ?_
  refine en_seq_reg rfl (by simp [hwl]; rfl) ?_
  refine en_seq_block (en_loop (kq := ⟨[2, 3, 4, 18, 19], [2, 4], []⟩) rfl ?_)
  refine it_inv (fun i => H49a m (hs m i) i) (fun i => i ≤ m.length / 64) (fun i => m.length / 64 - i) ?_ _ 0 _ ?_ ?_ ?_
  · intro i hi
    unfold b49_1 H49a
    by_cases hlt : i < m.length / 64
    · have hz1 : (i : Int) < (m.length : Int) / 64 := by omega
      have f1 : IntKind.i64.wrap (64 * (i : Int)) = 64 * i := wrap_i64 (by omega) (by omega)
      have f2 : (64 * (i : Int)).toNat = 64 * i := by omega
      have f3 : 0 ≤ 64 * (i : Int) := by omega
      have f4 : 64 * i ≤ m.length := by omega
      have f5 : 64 ≤ m.length - 64 * i := by omega
      have e60 := G60_eq (hs m i) (blk m i)
      have hbl : ints .u8 (List.take 64 (List.drop (64 * i) m)) = arC .u8 (blk m i) := by
        have : ((m.drop (64 * i)).take 64).length = 64 := by simp; omega
        unfold arC blk
        simp only [this]
        simp [zs]
      refine en_seq_reg rfl (by simp [und, List.replicate]; rfl) ?_
      refine en_seq_cond (t := true) (by simp [bV, hz1, hlt]) (fun _ => ?_) (fun h => by simp at h)
      refine en_seq_skip ?_
      refine en_seq_block ?_
      refine en_seq_reg rfl (by simp; rfl) ?_
      refine en_draw rfl (by simp [f1, f2, f3, f4, f5, intsR_drop, intsR_flat, ints_take, hbl, h60, e60, intsR_allT .u8 m, intsR_allT .u8 (m.drop (64 * i))]; exact ⟨rfl, rfl⟩) (by kernel_rfl) ?_
      simp only [outOf, thenQ, if_true]
      refine en_reg rfl (by simp; rfl) ?_
      simp only [outOf, thenQ, if_true]
      have hw : IntKind.i64.wrap ((i : Int) + 1) = i + 1 := wrap_i64 (by omega) (by omega)
      refine ⟨i + 1, by omega, ?_, by omega⟩
      simp [hw, und, List.replicate, hs]
    · obtain rfl : i = m.length / 64 := by omega
      have hz1 : ¬ (m.length : Int) / 64 < (m.length : Int) / 64 := by omega
      refine en_seq_reg rfl (by simp [und, List.replicate]; rfl) ?_
      refine en_seq_cond (t := false) (by simp [bV, hz1]) (fun h => by simp at h) (fun _ => ?_)
      refine en_seq_exit ?_
      simp only [outOf, thenQ, if_true]
      generalize hS : hs m (m.length / 64) = S
      refine en_seq_reg rfl (by simp; rfl) ?_
      refine en_assoc ?_
      refine en_seq_reg rfl (by simp; rfl) ?_
      refine en_seq_block (en_loop (kq := ⟨[2, 4, 6, 31], [2, 4, 6], []⟩) rfl ?_)
      refine it_inv (fun i => H49b S (dg S i) i) (fun i => i ≤ 32) (fun i => 32 - i) ?_ _ 0 _ ?_ ?_ ?_
      · intro i hi
        unfold b49_2 H49b
        by_cases hlt : i < 32
        · have hz1 : (i : Int) < 32 := by omega
          have f1 : IntKind.i64.wrap ((i : Int) / 4) = (i : Int) / 4 := wrap_i64 (by omega) (by omega)
          have f2 : ((i : Int) / 4).toNat = i / 4 := by omega
          have f3 : 0 ≤ (i : Int) / 4 := by omega
          have f4 : i / 4 < 8 := by omega
          have f5 : IntKind.i64.wrap ((i : Int) % 4 * 8) = (i : Int) % 4 * 8 := wrap_i64 (by omega) (by omega)
          have f6 : IntKind.i64.wrap (24 - (i : Int) % 4 * 8) = 24 - (i : Int) % 4 * 8 := wrap_i64 (by omega) (by omega)
          have f7 : ¬ 24 - (i : Int) % 4 * 8 < 0 := by omega
          have f8 : (24 - (i : Int) % 4 * 8).toNat = 24 - i % 4 * 8 := by omega
          have f9 : min (24 - i % 4 * 8) 32 = 24 - i % 4 * 8 := by omega
          have f10 : i ≤ 31 := by omega
          have f11 : (i : Int).tmod 4 = (i : Int) % 4 := Int.tmod_eq_emod_of_nonneg (by omega)
          have f12 : (i : Int).tdiv 4 = (i : Int) / 4 := Int.tdiv_eq_ediv_of_nonneg (by omega)
          refine en_seq_reg rfl (by simp [und, List.replicate]; rfl) ?_
          refine en_seq_cond (t := true) (by simp [bV, hz1]) (fun _ => ?_) (fun h => by simp at h)
          refine en_seq_skip ?_
          refine en_seq_block ?_
          refine en_seq_reg rfl (by simp; rfl) ?_
          refine en_reg rfl (by simp [f12, f11, f1, f2, f3, f4, f5, f6, f7, f8, f9, f10, hlt, arC_put, IntKind.bits]; rfl) ?_
          simp only [outOf, thenQ, if_true]
          refine en_reg rfl (by simp; rfl) ?_
          simp only [outOf, thenQ, if_true]
          have hw : IntKind.i64.wrap ((i : Int) + 1) = i + 1 := wrap_i64 (by omega) (by omega)
          refine ⟨i + 1, by omega, ?_, by omega⟩
          simp [hw, und, List.replicate, dg, ob]
        · obtain rfl : i = 32 := by omega
          refine en_seq_reg rfl (by simp [und, List.replicate]; rfl) ?_
          refine en_seq_cond (t := false) (by simp [bV]) (fun h => by simp at h) (fun _ => ?_)
          refine en_seq_exit ?_
          simp only [outOf, thenQ, if_true]
          refine en_seq_reg rfl (by simp; rfl) ?_
          refine en_ret ?_
          simp [sumL, hM, hS]
      · omega
      · omega
      · simp [H49b, und, List.replicate, dg]
  · omega
  · omega
  · simp [H49a, und, List.replicate, hs]
end
end Go.Proofs.YtipochhfofhofaaDoor
