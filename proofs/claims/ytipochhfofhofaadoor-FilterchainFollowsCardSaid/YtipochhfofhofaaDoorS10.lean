import Derived.Test.YtipochhfofhofaaDoorS9
namespace Go.Proofs.YtipochhfofhofaaDoor
open Go.RowKit
open Go.Av
set_option maxRecDepth 100000
set_option linter.unusedSimpArgs false
set_option linter.unusedVariables false
variable {G : Glob}
def kp51 : Keep := fun id => if id = 4 then ⟨[2, 3, 4, 5], [2, 4, 11, 16], []⟩ else ⟨[2, 4, 7, 33, 34], [2, 4, 7], []⟩
def H51b (s : Arr 8) (h : Arr 32) (i : Nat) : ASt := ⟨und 2 ++ ([.ptr 2 0 0 0 32] ++ (und 1 ++ ([.ptr 4 0 0 0 8] ++ (und 2 ++ ([.ptr 7 0 0 0 32] ++ (und 25 ++ ([.agg (arC .u32 s), iP i] ++ (und 31)))))))), [(2, bx 32 (arC .u8 (zA 32))), (4, bx 8 (arC .u32 s)), (7, bx 32 (arC .u8 h))]⟩
theorem dg4 (s : Arr 8) (i : Nat) : dg s (4 * (i + 1)) = ((((dg s (4 * i)).put (4 * i) (IntKind.u8.wrap ((s.at i).fdiv (2 ^ 24)))).put (4 * i + 1) (IntKind.u8.wrap ((s.at i).fdiv (2 ^ 16)))).put (4 * i + 2) (IntKind.u8.wrap ((s.at i).fdiv (2 ^ 8)))).put (4 * i + 3) (IntKind.u8.wrap (s.at i)) := by
  rw [show 4 * (i + 1) = 4 * i + 1 + 1 + 1 + 1 by omega]
  simp only [dg, ob]
  rw [show 4 * i / 4 = i by omega, show (4 * i + 1) / 4 = i by omega, show (4 * i + 1 + 1) / 4 = i by omega, show (4 * i + 1 + 1 + 1) / 4 = i by omega,
    show 4 * i % 4 = 0 by omega, show (4 * i + 1) % 4 = 1 by omega, show (4 * i + 1 + 1) % 4 = 2 by omega, show (4 * i + 1 + 1 + 1) % 4 = 3 by omega]
  simp

def H51_11 (m : List Int) (s : Arr 8) (i : Nat) : ASt := ⟨und 2 ++ ([.ptr 2 0 0 0 32, .one (.ms 11 0 0 m.length 1), .ptr 4 0 0 0 8, iP (64 * i)] ++ (und 60)), [(2, bx 32 (arC .u8 (zA 32))), (4, bx 8 (arC .u32 s)), (11, ⟨0, 1, intsR .u8 m, false, true⟩)]⟩
section
variable {T : Tab}
set_option maxHeartbeats 1000000 in
theorem l51_11 (b : List Int) {st : ASt} {n : Nat} (hb : b.length ≤ 1099511627776) (hn : b.length + 200 ≤ n) (h63 : T 63 = some G60) (hst : forget ⟨[2, 3, 4, 5], [2, 4, 11, 16], []⟩ st = H51_11 (msg b) iniA 0) :
    EndA tt T G kp51 n (.seq (.block 0 (.loop b51_1)) (.seq (reg Tryd.f51 9) (.seq (.seq (reg Tryd.f51 10) (.block 2 (.loop b51_2))) (.seq (reg Tryd.f51 15) Code.ret)))) st (FinQ tt false Tryd.f51 [.one (isC .u8 b)] (.agg (arC .u8 (sumL b)), [])) := by
  have hz : zn b.length < 64 := by unfold zn; omega
  have hp := padL_len b.length
  have hml : (msg b).length = b.length + 9 + zn b.length := by unfold msg; simp [hp]; omega
  generalize hM : msg b = m at *
  refine en_seq_block (en_loop (kq := ⟨[2, 3, 4, 5], [2, 4, 11, 16], []⟩) rfl ?_)
  refine it_inv (fun i => H51_11 m (hs m i) i) (fun i => i ≤ m.length / 64) (fun i => m.length / 64 - i) ?_ _ 0 _ ?_ ?_ hst
  · intro i hi
    unfold b51_1 H51_11
    have f0 : IntKind.i64.wrap (64 * (i : Int) + 64) = 64 * i + 64 := wrap_i64 (by omega) (by omega)
    by_cases hlt : i < m.length / 64
    · have hz1 : 64 * (i : Int) + 64 ≤ m.length := by omega
      have f2 : (64 * (i : Int)).toNat = 64 * i := by omega
      have f3 : 0 ≤ 64 * (i : Int) := by omega
      have f4 : 64 * i ≤ m.length := by omega
      have f5 : 64 ≤ m.length - 64 * i := by omega
      have f6 : min 64 (m.length - 64 * i) = 64 := by omega
      have e60 := G60_eq (hs m i) (blk m i)
      have hbl : ints .u8 (List.take 64 (List.drop (64 * i) m)) = arC .u8 (blk m i) := by
        have : ((m.drop (64 * i)).take 64).length = 64 := by simp; omega
        unfold arC blk
        simp only [this]
        simp [zs]
      have m64 : 64 ≤ maxLen := by decide
      have m65 : m.length - 64 * i ≤ maxLen := by unfold maxLen; omega
      refine en_assoc ?_
      refine en_seq_reg rfl (by simp [und, List.replicate, f0]; rfl) ?_
      refine en_seq_cond (t := true) (by simp [bV, hz1]) (fun _ => ?_) (fun h => by simp at h)
      refine en_seq_skip ?_
      refine en_seq_block ?_
      refine en_seq_reg rfl (by simp; rfl) ?_
      refine en_seq_draw rfl (by simp [m64, m65, f2, f3, f4, f5, f6, intsR_drop, intsR_take, intsR_flat, ints_take, hbl, intsR_allT .u8 m, intsR_allT .u8 (m.drop (64 * i))]; exact ⟨rfl, rfl⟩) (by kernel_rfl) ?_
      refine en_reg rfl (by simp [h63, e60]; rfl) ?_
      simp only [outOf, thenQ, if_true]
      refine en_reg rfl (by simp [f0]; rfl) ?_
      simp only [outOf, thenQ, if_true]
      refine ⟨i + 1, by omega, ?_, by omega⟩
      simp [und, List.replicate, hs]
      omega
    · obtain rfl : i = m.length / 64 := by omega
      have hz1 : ¬ 64 * ((m.length : Int) / 64) + 64 ≤ m.length := by omega
      simp at f0
      refine en_assoc ?_
      refine en_seq_reg rfl (by simp [und, List.replicate, f0]; rfl) ?_
      refine en_seq_cond (t := false) (by simp [bV, hz1]) (fun h => by simp at h) (fun _ => ?_)
      refine en_seq_exit ?_
      simp only [outOf, thenQ, if_true]
      generalize hS : hs m (m.length / 64) = S
      refine en_seq_reg rfl (by simp; rfl) ?_
      refine en_assoc ?_
      refine en_seq_reg rfl (by simp; rfl) ?_
      refine en_seq_block (en_loop (kq := ⟨[2, 4, 7, 33, 34], [2, 4, 7], []⟩) rfl ?_)
      refine it_inv (fun i => H51b S (dg S (4 * i)) i) (fun i => i ≤ 8) (fun i => 8 - i) ?_ _ 0 _ ?_ ?_ ?_
      · intro i hi
        unfold b51_2 H51b
        by_cases hlt : i < 8
        · have hz1 : (i : Int) < 8 := by omega
          have e0 : IntKind.i64.wrap (4 * (i : Int)) = 4 * i := wrap_i64 (by omega) (by omega)
          have e1 : IntKind.i64.wrap (4 * (i : Int) + 1) = 4 * i + 1 := wrap_i64 (by omega) (by omega)
          have e2 : IntKind.i64.wrap (4 * (i : Int) + 2) = 4 * i + 2 := wrap_i64 (by omega) (by omega)
          have e3 : IntKind.i64.wrap (4 * (i : Int) + 3) = 4 * i + 3 := wrap_i64 (by omega) (by omega)
          have k0 : (4 * (i : Int)).toNat = 4 * i := by omega
          have k1 : (4 * (i : Int) + 1).toNat = 4 * i + 1 := by omega
          have k2 : (4 * (i : Int) + 2).toNat = 4 * i + 2 := by omega
          have k3 : (4 * (i : Int) + 3).toNat = 4 * i + 3 := by omega
          have g0 : 0 ≤ 4 * (i : Int) := by omega
          have g1 : 0 ≤ 4 * (i : Int) + 1 := by omega
          have g2 : 0 ≤ 4 * (i : Int) + 2 := by omega
          have g3 : 0 ≤ 4 * (i : Int) + 3 := by omega
          have l0 : 4 * i < 32 := by omega
          have l1 : 4 * i + 1 < 32 := by omega
          have l2 : 4 * i + 2 < 32 := by omega
          have l3 : 4 * i + 3 < 32 := by omega
          have l0' : 4 * i ≤ 31 := by omega
          have l1' : 4 * i ≤ 30 := by omega
          have l2' : 4 * i ≤ 29 := by omega
          have l3' : 4 * i ≤ 28 := by omega
          refine en_seq_reg rfl (by simp [und, List.replicate]; rfl) ?_
          refine en_seq_cond (t := true) (by simp [bV, hz1]) (fun _ => ?_) (fun h => by simp at h)
          refine en_seq_skip ?_
          refine en_seq_block ?_
          refine en_seq_reg rfl (by simp [hlt, hz1]; rfl) ?_
          refine en_reg rfl (by simp [e0, e1, e2, e3, k0, k1, k2, k3, g0, g1, g2, g3, l0, l1, l2, l3, l0', l1', l2', l3', arC_put, IntKind.bits]; rfl) ?_
          simp only [outOf, thenQ, if_true]
          refine en_reg rfl (by simp; rfl) ?_
          simp only [outOf, thenQ, if_true]
          have hw : IntKind.i64.wrap ((i : Int) + 1) = i + 1 := wrap_i64 (by omega) (by omega)
          refine ⟨i + 1, by omega, ?_, by omega⟩
          simp [hw, und, List.replicate, dg4]
        · obtain rfl : i = 8 := by omega
          refine en_seq_reg rfl (by simp [und, List.replicate]; rfl) ?_
          refine en_seq_cond (t := false) (by simp [bV]) (fun h => by simp at h) (fun _ => ?_)
          refine en_seq_exit ?_
          simp only [outOf, thenQ, if_true]
          refine en_seq_reg rfl (by simp; rfl) ?_
          refine en_ret ?_
          simp [sumL, hM, hS]
      · omega
      · omega
      · simp [H51b, und, List.replicate, dg]
  · omega
  · omega
end

section
variable {T : Tab}
theorem w51 (b : List Int) (hb : b.length ≤ 1099511627776) (h61 : T 61 = some G59) (h62 : T 62 = some G62) (h63 : T 63 = some G60) : execFn tt T G kp51 false (b.length + 200) Tryd.f51 [.one (isC .u8 b)] = some (.agg (arC .u8 (sumL b)), []) := by
  refine fn_ends body51 ?_
  unfold c51
  rw [Tryd.ntmps51]
  have hz : zn b.length < 64 := by unfold zn; omega
  have hp := padL_len b.length
  have e59 := G59_eq (N := b.length) (by omega)
  have e62 := G62_eq
  have ew : IntKind.u64.wrap (b.length : Int) = b.length := wrap_u64 (by omega) (by omega)
  have n0 : b.length ≤ 140737488355328 := by omega
  have n0' : b.length ≤ maxLen := by unfold maxLen; omega
  have n1 : b.length + (padL b.length).length ≤ 140737488355328 := by omega
  have n2 : b.length + (padL b.length).length ≤ maxLen := by unfold maxLen; omega
  refine en_seq_reg rfl (by simp; rfl) ?_
  refine en_seq_reg rfl (by simp [h61, e59, ew, intsR_allT .u8 b, intsR_allT .u8 (padL b.length), n0, n0', n1, n2, intsR_append]; rfl) ?_
  refine en_seq_reg rfl (by simp [h62, e62]; rfl) ?_
  refine en_assoc ?_
  refine en_seq_reg rfl (by simp; rfl) ?_
  refine l51_11 b hb (by omega) h63 ?_
  simp [H51_11, und, List.replicate, msg, hp]
end
noncomputable def G49 := lift (fun x : { b : List Int // b.length ≤ 1099511627776 } => [.one (isC .u8 x.1)]) fun x => some (.agg (arC .u8 (sumL x.1)), [])
theorem G49_eq {b : List Int} (h : b.length ≤ 1099511627776) : G49 [.one (isC .u8 b)] = some (.agg (arC .u8 (sumL b)), []) := lift_eq (enc := fun x : { b : List Int // b.length ≤ 1099511627776 } => [.one (isC .u8 x.1)]) (fun a b h => by
  simp at h
  exact Subtype.ext (intsR_inj h)) ⟨b, h⟩
theorem v49 (g0 : G 0 = some (arC .u32 iniA)) (g1 : G 1 = some (arC .u32 kA)) : Impl Tryd.prog G 49 G49 := impl_of (T := Av.tab [(58, G58), (59, G59), (60, G60)]) mixed htt (Av.tab_ok ⟨v58, v59, v60 g1, trivial⟩) Tryd.func49 body49 (by kernel_rfl) fun ps r ho hF => by
  obtain ⟨x, rfl, h⟩ := lift_inv hF
  injection h with h
  subst h
  exact ⟨_, _, _, w49 x.1 x.2 g0 rfl rfl rfl⟩
theorem v51 : Impl Tryd.prog G 51 G49 := impl_of (T := Av.tab [(61, G59), (62, G62), (63, G60)]) mixed htt (Av.tab_ok ⟨v61, v62, v63, trivial⟩) Tryd.func51 body51 (by kernel_rfl) fun ps r ho hF => by
  obtain ⟨x, rfl, h⟩ := lift_inv hF
  injection h with h
  subst h
  exact ⟨_, _, _, w51 x.1 x.2 rfl rfl rfl⟩
end Go.Proofs.YtipochhfofhofaaDoor
