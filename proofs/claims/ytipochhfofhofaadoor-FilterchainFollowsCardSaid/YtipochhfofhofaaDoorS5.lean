import Derived.Test.YtipochhfofhofaaDoorS4
namespace Go.Proofs.YtipochhfofhofaaDoor
open Go.RowKit
open Go.Av
set_option maxRecDepth 100000
set_option linter.unusedSimpArgs false
set_option linter.unusedVariables false
variable {G : Glob}
noncomputable def G68 := lift (fun _ : Unit => []) fun _ => some (.agg (arC .u32 kA), [])
noncomputable def G62 := lift (fun _ : Unit => []) fun _ => some (.agg (arC .u32 iniA), [])
theorem G68_eq : G68 [] = some (.agg (arC .u32 kA), []) := lift_eq (enc := fun _ : Unit => []) (fun _ _ _ => rfl) ()
theorem G62_eq : G62 [] = some (.agg (arC .u32 iniA), []) := lift_eq (enc := fun _ : Unit => []) (fun _ _ _ => rfl) ()
section
variable {T : Tab}
theorem w62 : execFn tt T G kp0 false 0 Tryd.f62 [] = some (.agg (arC .u32 iniA), []) := by
  refine fn_ends body62 ?_
  unfold c62
  rw [Tryd.ntmps62]
  refine en_seq_reg rfl (by simp; rfl) ?_
  refine en_seq_reg rfl (by simp [arC_put]; rfl) ?_
  refine en_ret ?_
  simp
  rfl
set_option maxHeartbeats 4000000 in
theorem w68 : execFn tt T G kp0 false 0 Tryd.f68 [] = some (.agg (arC .u32 kA), []) := by
  refine fn_ends body68 ?_
  unfold c68
  rw [Tryd.ntmps68]
  refine en_seq_reg rfl (by simp; rfl) ?_
  refine en_seq_reg rfl (by simp [arC_put]; rfl) ?_
  refine en_ret ?_
  simp
  rfl
end
theorem v62 : Impl Tryd.prog G 62 G62 := impl_of (T := Av.tab []) mixed htt (Av.tab_ok trivial) Tryd.func62 body62 (by kernel_rfl) fun ps r ho hF => by
  obtain ⟨x, rfl, h⟩ := lift_inv hF
  injection h with h
  subst h
  exact ⟨_, _, _, w62⟩
theorem v68 : Impl Tryd.prog G 68 G68 := impl_of (T := Av.tab []) mixed htt (Av.tab_ok trivial) Tryd.func68 body68 (by kernel_rfl) fun ps r ho hF => by
  obtain ⟨x, rfl, h⟩ := lift_inv hF
  injection h with h
  subst h
  exact ⟨_, _, _, w68⟩
def H63 (x : Arr 8) (w : Arr 64) (s : St) (i : Nat) : ASt := ⟨und 2 ++ ([.ptr 2 0 0 0 8] ++ (und 1 ++ ([.ptr 4 0 0 0 8, .ptr 5 0 0 0 64, .ptr 6 0 0 0 64, uP s.a, uP s.b, uP s.c, uP s.d, uP s.e, uP s.f, uP s.g, uP s.h, iP i] ++ (und 117)))), [(2, bx 8 (arC .u32 x)), (4, bx 8 (arC .u32 (zA 8))), (5, bx 64 (arC .u32 w)), (6, bx 64 (arC .u32 kA))]⟩
def kp63 : Keep := fun _ => ⟨[2, 4, 5, 6, 7, 8, 9, 10, 11, 12, 13, 14, 15], [2, 4, 5, 6], []⟩
section
variable {T : Tab}
set_option maxHeartbeats 4000000 in
theorem w63 (x : Arr 8) (b : Arr 64) (h67 : T 67 = some G65) (h68 : T 68 = some G68) (h69 : T 69 = some G66) : execFn tt T G kp63 false 65 Tryd.f63 [.agg (arC .u32 x), .agg (arC .u8 b)] = some (.agg (arC .u32 (comp x b)), []) := by
  refine fn_ends body63 ?_
  unfold c63
  rw [Tryd.ntmps63]
  have e65 := G65_eq b
  have e68 := G68_eq
  refine en_seq_reg rfl (by simp; rfl) ?_
  refine en_seq_reg rfl (by simp [h67, e65, h68, e68]; rfl) ?_
  refine en_seq_draw rfl (by simp; exact ⟨rfl, rfl⟩) (by kernel_rfl) ?_
  refine en_assoc ?_
  refine en_seq_reg rfl (by simp; rfl) ?_
  refine en_seq_block (en_loop (kq := ⟨[2, 4, 5, 6, 7, 8, 9, 10, 11, 12, 13, 14, 15], [2, 4, 5, 6], []⟩) rfl ?_)
  refine it_inv (fun i => H63 x (sched b) (rnds (sched b) (st0 x) i) i) (fun i => i ≤ 64) (fun i => 64 - i) ?_ _ 0 _ ?_ ?_ ?_
  · intro i hi
    unfold b63_1 H63
    generalize hs : rnds (sched b) (st0 x) i = s
    by_cases hlt : i < 64
    · have hz : (i : Int) < 64 := by omega
      refine en_assoc ?_
      refine en_seq_reg rfl (by simp [und, List.replicate]; rfl) ?_
      refine en_seq_cond (t := true) (by simp [bV, hz]) (fun _ => ?_) (fun h => by simp at h)
      refine en_seq_skip ?_
      refine en_seq_block ?_
      refine en_seq_draw rfl (by simp [hlt, h69, G66, IntKind.signed, IntKind.max, IntKind.bits]; exact ⟨rfl, rfl⟩) (by kernel_rfl) ?_
      refine en_seq_reg rfl (by simp [h69, G66]; rfl) ?_
      refine en_reg rfl (by simp; rfl) ?_
      simp only [outOf, thenQ, if_true]
      refine en_reg rfl (by simp; rfl) ?_
      simp only [outOf, thenQ, if_true]
      have hw : IntKind.i64.wrap ((i : Int) + 1) = i + 1 := wrap_i64 (by omega) (by omega)
      refine ⟨i + 1, by omega, ?_, by omega⟩
      simp [hw, und, List.replicate, rnds, rnd, t1, t2, hs, ad]
    · have hz : ¬ (i : Int) < 64 := by omega
      obtain rfl : i = 64 := by omega
      refine en_assoc ?_
      refine en_seq_reg rfl (by simp [und, List.replicate]; rfl) ?_
      refine en_seq_cond (t := false) (by simp [bV, hz]) (fun h => by simp at h) (fun _ => ?_)
      refine en_seq_exit ?_
      simp only [outOf, thenQ, if_true]
      refine en_seq_reg rfl (by simp [arC_put]; rfl) ?_
      refine en_ret ?_
      have hf : comp x b = (((((((((zA 8).put 0 (ad (x.at 0) s.a)).put 1 (ad (x.at 1) s.b)).put 2 (ad (x.at 2) s.c)).put 3 (ad (x.at 3) s.d)).put 4 (ad (x.at 4) s.e)).put 5 (ad (x.at 5) s.f)).put 6 (ad (x.at 6) s.g)).put 7 (ad (x.at 7) s.h)) := by
        unfold comp
        rw [hs]
        rfl
      rw [hf]
      simp [ad]
  · omega
  · omega
  · simp [H63, und, List.replicate, rnds, st0]
end
noncomputable def G60 := lift (fun x : Arr 8 × Arr 64 => [.agg (arC .u32 x.1), .agg (arC .u8 x.2)]) fun x => some (.agg (arC .u32 (comp x.1 x.2)), [])
theorem G60_eq (x : Arr 8) (b : Arr 64) : G60 [.agg (arC .u32 x), .agg (arC .u8 b)] = some (.agg (arC .u32 (comp x b)), []) := lift_eq (enc := fun x : Arr 8 × Arr 64 => [.agg (arC .u32 x.1), .agg (arC .u8 x.2)]) (fun a b h => by
  obtain ⟨a1, a2⟩ := a
  obtain ⟨b1, b2⟩ := b
  simp at h
  rw [arC_inj h.1, arC_inj h.2]) (x, b)
theorem v60 (hG : G 1 = some (arC .u32 kA)) : Impl Tryd.prog G 60 G60 := impl_of (T := Av.tab [(65, G65), (66, G66)]) mixed htt (Av.tab_ok ⟨v65, v66, trivial⟩) Tryd.func60 body60 (by kernel_rfl) fun ps r ho hF => by
  obtain ⟨x, rfl, h⟩ := lift_inv hF
  injection h with h
  subst h
  exact ⟨_, _, _, w60 x.1 x.2 hG rfl rfl⟩
theorem v63 : Impl Tryd.prog G 63 G60 := impl_of (T := Av.tab [(67, G65), (68, G68), (69, G66)]) mixed htt (Av.tab_ok ⟨v67, v68, v69, trivial⟩) Tryd.func63 body63 (by kernel_rfl) fun ps r ho hF => by
  obtain ⟨x, rfl, h⟩ := lift_inv hF
  injection h with h
  subst h
  exact ⟨_, _, _, w63 x.1 x.2 rfl rfl rfl⟩
end Go.Proofs.YtipochhfofhofaaDoor
