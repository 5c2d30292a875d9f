import Derived.Test.YtconfbgcjkjnkaaDoorLfK
import Derived.Test.YtconfbgcjkjnkaaDoorCode
namespace Go.Proofs.YtconfbgcjkjnkaaDoor
open Go.RowKit
open Go.Av
open Go.Lc
set_option maxRecDepth 100000
set_option linter.unusedSimpArgs false
set_option linter.unusedVariables false
set_option maxHeartbeats 4000000
theorem w57 : Walk tt G [(39, K39.G), (45, K45.G), (46, K46.G)] (fun _ => []) Tryd.f57 K57 := by
 refine .of [(3, ⟨[3, 9, 10, 11], [1000000000008], []⟩), (8, ⟨[3, 9, 10, 11, 32, 33, 34], [1000000000008], []⟩)] false body57 Tryd.ntmps57 fun T hO hT a0 x hr => ⟨by simp, ?_⟩
 simp only [tabAll] at hT; simp only at hr ⊢; unfold c57
 unfold Lreplace_sound at hr
 refine go ?_
 refine lp 3 (fun (⟨p29, p30⟩ : Int × (List (Tapi_OutPoint × Bool))) => ⟨(und 3 ++ ([.one (.mp 1000000000008 0)] ++ (und 5 ++ ([.one (.slice .no (List.map eapi_Entry a0)), .one (.v (.int .i64 (a0.length : Int))), .one (.v (.int .i64 p29))] ++ (und 35)))) : List PV), ([(1000000000008, ⟨0, 6, ((arC .u8 (zA 32)) ++ ((.v (.int .u32 0)) :: [])) :: List.map eM_api_OutPoint_B p30, false, false⟩)] : Boxes)⟩) hr ?_
 rintro ⟨p29, p30⟩ x83r hr83
 simp only [Lreplace_sound_s1] at hr83
 unfold b57_1
 refine nst ?_
 refine go ?_
 by_cases c84 : p29 < (a0.length : Int)
 ·have c84N := nrm c84
  replace hr83 := ifP hr83
  refine go ?_
  obtain ⟨x85, ⟨_, _, _⟩, hr83⟩ := bI hr83
  refine go ?_
  obtain ⟨y86, ehy86, hr83⟩ := bN hr83 G39_eq
  rcases eqT (y86 = 0) with c87 | c87
  ·replace hr83 := ifNb hr83
   obtain ⟨_, hz88, hr83⟩ := bs hr83
   obtain ⟨y89, ehy89, hz88⟩ := bN hz88 G45_eq
   obtain rfl := Option.some.inj hz88
   by_cases c90 : y89 = true
   ·replace hr83 := ifPb hr83
    obtain ⟨_, hz91, hr83⟩ := bs hr83
    obtain rfl := Option.some.inj hz91
    refine go ?_
    replace hr83 := ifP hr83
    refine go ?_
    exact fin hr83
   ·replace hr83 := ifNb hr83
    obtain ⟨_, hz92, hr83⟩ := bs hr83
    obtain ⟨y93, ehy93, hz92⟩ := bN hz92 G46_eq
    obtain rfl := Option.some.inj hz92
    refine go ?_
    by_cases c94 : y93 = true
    ·replace hr83 := ifN hr83
     refine go ?_
     refine lp 8 (fun (⟨p54, p55⟩ : Int × (List (Tapi_OutPoint × Bool))) => ⟨(und 3 ++ ([.one (.mp 1000000000008 0)] ++ (und 5 ++ ([.one (.slice .no (List.map eapi_Entry a0)), .one (.v (.int .i64 (a0.length : Int))), .one (.v (.int .i64 p29))] ++ (und 20 ++ ([.one (.slice .no (List.map eapi_Input x85.1.2.1)), .one (.v (.int .i64 (x85.1.2.1.length : Int))), .one (.v (.int .i64 p54))] ++ (und 12)))))) : List PV), ([(1000000000008, ⟨0, 6, ((arC .u8 (zA 32)) ++ ((.v (.int .u32 0)) :: [])) :: List.map eM_api_OutPoint_B p55, false, false⟩)] : Boxes)⟩) hr83 ?_
     rintro ⟨p54, p55⟩ x100r hr100
     simp only [Lreplace_sound_s2] at hr100
     unfold b57_2
     refine nst ?_
     refine go ?_
     by_cases c101 : p54 < (x85.1.2.1.length : Int)
     ·have c101N := nrm c101
      replace hr100 := ifP hr100
      refine go ?_
      obtain ⟨x102, ⟨_, _, _⟩, hr100⟩ := bI hr100
      refine go ?_
      by_cases c103 : (mget x102.1 p55).getD false = true
      ·replace hr100 := ifP hr100
       refine go ?_
       exact fin hr100
      ·replace hr100 := ifN hr100
       refine go ?_
       exact bk hr100
     ·have c101N := nrm c101
      replace hr100 := ifN hr100
      refine go ?_
      obtain ⟨r104, q104, rfl⟩ := ms hr100
      refine go ?_
      rintro rfl
      refine go ?_
      unfold Lreplace_sound_k2 at q104
      refine go ?_
      exact bk q104
    ·replace hr83 := ifP hr83
     refine go ?_
     exact fin hr83
  ·replace hr83 := ifPb hr83
   obtain ⟨_, hz105, hr83⟩ := bs hr83
   obtain rfl := Option.some.inj hz105
   replace hr83 := ifPb hr83
   obtain ⟨_, hz106, hr83⟩ := bs hr83
   obtain rfl := Option.some.inj hz106
   refine go ?_
   replace hr83 := ifP hr83
   refine go ?_
   exact fin hr83
 ·have c84N := nrm c84
  replace hr83 := ifN hr83
  refine go ?_
  obtain ⟨r107, q107, rfl⟩ := ms hr83
  refine go ?_
  rintro rfl
  refine go ?_
  unfold Lreplace_sound_k1 at q107
  refine go ?_
  exact fin q107
theorem cnil85 (c : Nat) (w : World) : Calls Tryd.prog 85 #[.slice none 0 c] w fun e w' => e = .returned (.slice none 0 0) ∧ w' = w := by
 have h1 : ∀ w, (binOp .eql 27 (.slice none 0 c) (.slice none 0 0)).run Tryd.prog w = .ok (.bool true) w := fun w => by
  have h : ∀ d : Nat, (Op.equalIn (d + 1) 27 (.slice none 0 c) (.slice none 0 0)).run Tryd.prog w = .ok true w := fun d => by
   simp [Op.equalIn, run_underlying Tryd.underlying27]
  have h' : (Op.equal 27 (.slice none 0 c) (.slice none 0 0)).run Tryd.prog w = .ok true w := h 9999
  simp [binOp, h']
 go_enter Tryd.func85, Tryd.ntmps85
 go_wp2
 go_ret
 exact ⟨rfl, rfl⟩
theorem csome85 (b : Addr) (c : Nat) (w : World) : Calls Tryd.prog 85 #[.slice (some b) 0 c] w fun e w' => e = .returned (.slice (some ⟨w.heap.size, 0, none⟩) 0 0) ∧ w' = w.alloc (.cells #[] 38) := by
 have h1 : ∀ w, (binOp .eql 27 (.slice (some b) 0 c) (.slice none 0 0)).run Tryd.prog w = .ok (.bool false) w := fun w => by
  have h : (Op.equal 27 (.slice (some b) 0 c) (.slice none 0 0)).run Tryd.prog w = .ok false w := eqIn_slice 9999 Tryd.underlying27
  simp [binOp, h]
 have h2 : ∀ w, (Instr.buildSlice 27 0 #[]).run Tryd.prog w = .ok (.slice (some ⟨w.heap.size, 0, none⟩) 0 0) (w.alloc (.cells #[] 38)) := fun w => by kernel_rfl
 have hi0 : (Tryd.prog.info? 38).isSome = true := by kernel_rfl
 obtain ⟨i, hi⟩ := Option.isSome_iff_exists.1 hi0
 have h3 : ∀ (w : World) (x : Option Addr) ty, (Builtin.append_ #[27, 27] ty #[.slice x 0 0, .slice (some b) 0 c]).run Tryd.prog w = .ok (.slice x 0 0) w := fun w x ty => run_append_zero w 27 ty 38 i Tryd.underlying27 hi x (some b) 0 0 c (Nat.le_refl _)
 clear hi hi0
 go_enter Tryd.func85, Tryd.ntmps85
 go_wp2
 go_ret
 exact ⟨rfl, rfl⟩
def kp85 : Keep := fun i => ⟨[], [], []⟩
theorem w85 {T : Tab} (a0 : (List Tapi_Input)) (hne : a0 ≠ []) (x : (List Tapi_Input)) (hr : Lslices_Clone_of__api_Input_api_Input a0 = some x) : ∃ kp fl n, execFn tt T G kp fl n Tryd.f85 [.one (.slice .no (List.map eapi_Input a0))] = some (.one (.own 35 (List.map eapi_Input a0)), []) := by
 refine fnE (kp := kp85) (w := true) body85 (by simp) ?_
 unfold c85
 rw [Tryd.ntmps85]
 unfold Lslices_Clone_of__api_Input_api_Input at hr
 obtain ⟨_, u1, hr⟩ := bs hr
 have u2 := chk_some u1
 have n1 : a0.length * 64 ≤ 140737488355328 := by omega
 have n2 : a0.length ≤ 9223372036854775807 := by omega
 have ne : List.map eapi_Input a0 ≠ [] := fun h => hne (by simpa [intsR] using h)
 refine ee_seq_reg rfl (by simp; rfl) ?_
 first
 | (refine ee_assoc ?_; refine ee_seq_reg rfl (by simp [hne, ne]; rfl) ?_)
 | refine ee_seq_reg rfl (by simp [hne, ne]; rfl) ?_
 refine ee_seq_condF (by simp [bV]) ?_
 refine ee_seq_skip ?_
 refine ee_seq_reg rfl (by simp [n1, n2]; rfl) ?_
 refine ee_ret ?_
 simp [FinQ]
theorem v85 : Impl Tryd.prog G 85 G85 := by
 refine clone_impl (e := 35) (t := 38) (N := 0) (rows := fun l : (List Tapi_Input) => List.map eapi_Input l) Tryd.func85 (by kernel_rfl) (by kernel_rfl) G85 (fun ps r hF => ?_) rfl (fun l hl r hF => ?_) (fun x c w => ?_)
 ·obtain ⟨x, rfl, h⟩ := lift_inv hF
  obtain ⟨y, hy, rfl⟩ := Option.map_eq_some_iff.1 h
  unfold Lslices_Clone_of__api_Input_api_Input at hy
  obtain ⟨_, u1, hy⟩ := bs hy
  obtain rfl := Option.some.inj hy
  exact ⟨x, rfl, rfl⟩
 ·refine impl_of (T := Av.tab []) mixed htt (Av.tab_ok trivial) Tryd.func85 body85 (by kernel_rfl) fun ps r' ho hF' => ?_
  split at hF'
  ·rename_i hps
   subst hps
   injection hF' with hF'
   subst hF'
   obtain ⟨x, hx, h⟩ := lift_inv hF
   obtain rfl := E85i l x hx
   obtain ⟨y, hy, rfl⟩ := Option.map_eq_some_iff.1 h
   have hy' := hy
   unfold Lslices_Clone_of__api_Input_api_Input at hy'
   obtain ⟨_, u1, hy'⟩ := bs hy'
   obtain rfl := Option.some.inj hy'
   exact w85 l hl _ hy
  ·cases hF'
 ·cases x with
  | none => exact (cnil85 c w).mono fun e w' h => ⟨none, h.1, .inl h.2⟩
  | some b => exact (csome85 b c w).mono fun e w' h => ⟨_, h.1, .inr h.2⟩
theorem cnil86 (c : Nat) (w : World) : Calls Tryd.prog 86 #[.slice none 0 c] w fun e w' => e = .returned (.slice none 0 0) ∧ w' = w := by
 have h1 : ∀ w, (binOp .eql 28 (.slice none 0 c) (.slice none 0 0)).run Tryd.prog w = .ok (.bool true) w := fun w => by
  have h : ∀ d : Nat, (Op.equalIn (d + 1) 28 (.slice none 0 c) (.slice none 0 0)).run Tryd.prog w = .ok true w := fun d => by
   simp [Op.equalIn, run_underlying Tryd.underlying28]
  have h' : (Op.equal 28 (.slice none 0 c) (.slice none 0 0)).run Tryd.prog w = .ok true w := h 9999
  simp [binOp, h']
 go_enter Tryd.func86, Tryd.ntmps86
 go_wp2
 go_ret
 exact ⟨rfl, rfl⟩
theorem csome86 (b : Addr) (c : Nat) (w : World) : Calls Tryd.prog 86 #[.slice (some b) 0 c] w fun e w' => e = .returned (.slice (some ⟨w.heap.size, 0, none⟩) 0 0) ∧ w' = w.alloc (.cells #[] 73) := by
 have h1 : ∀ w, (binOp .eql 28 (.slice (some b) 0 c) (.slice none 0 0)).run Tryd.prog w = .ok (.bool false) w := fun w => by
  have h : (Op.equal 28 (.slice (some b) 0 c) (.slice none 0 0)).run Tryd.prog w = .ok false w := eqIn_slice 9999 Tryd.underlying28
  simp [binOp, h]
 have h2 : ∀ w, (Instr.buildSlice 28 0 #[]).run Tryd.prog w = .ok (.slice (some ⟨w.heap.size, 0, none⟩) 0 0) (w.alloc (.cells #[] 73)) := fun w => by kernel_rfl
 have hi0 : (Tryd.prog.info? 73).isSome = true := by kernel_rfl
 obtain ⟨i, hi⟩ := Option.isSome_iff_exists.1 hi0
 have h3 : ∀ (w : World) (x : Option Addr) ty, (Builtin.append_ #[28, 28] ty #[.slice x 0 0, .slice (some b) 0 c]).run Tryd.prog w = .ok (.slice x 0 0) w := fun w x ty => run_append_zero w 28 ty 73 i Tryd.underlying28 hi x (some b) 0 0 c (Nat.le_refl _)
 clear hi hi0
 go_enter Tryd.func86, Tryd.ntmps86
 go_wp2
 go_ret
 exact ⟨rfl, rfl⟩
def kp86 : Keep := fun i => ⟨[], [], []⟩
theorem w86 {T : Tab} (a0 : (List Tapi_Output)) (hne : a0 ≠ []) (x : (List Tapi_Output)) (hr : Lslices_Clone_of__api_Output_api_Output a0 = some x) : ∃ kp fl n, execFn tt T G kp fl n Tryd.f86 [.one (.slice .no (List.map eapi_Output a0))] = some (.one (.own 2 (List.map eapi_Output a0)), []) := by
 refine fnE (kp := kp86) (w := true) body86 (by simp) ?_
 unfold c86
 rw [Tryd.ntmps86]
 unfold Lslices_Clone_of__api_Output_api_Output at hr
 obtain ⟨_, u1, hr⟩ := bs hr
 have u2 := chk_some u1
 have n1 : a0.length * 32 ≤ 140737488355328 := by omega
 have n2 : a0.length ≤ 9223372036854775807 := by omega
 have ne : List.map eapi_Output a0 ≠ [] := fun h => hne (by simpa [intsR] using h)
 refine ee_seq_reg rfl (by simp; rfl) ?_
 first
 | (refine ee_assoc ?_; refine ee_seq_reg rfl (by simp [hne, ne]; rfl) ?_)
 | refine ee_seq_reg rfl (by simp [hne, ne]; rfl) ?_
 refine ee_seq_condF (by simp [bV]) ?_
 refine ee_seq_skip ?_
 refine ee_seq_reg rfl (by simp [n1, n2]; rfl) ?_
 refine ee_ret ?_
 simp [FinQ]
theorem v86 : Impl Tryd.prog G 86 G86 := by
 refine clone_impl (e := 2) (t := 73) (N := 0) (rows := fun l : (List Tapi_Output) => List.map eapi_Output l) Tryd.func86 (by kernel_rfl) (by kernel_rfl) G86 (fun ps r hF => ?_) rfl (fun l hl r hF => ?_) (fun x c w => ?_)
 ·obtain ⟨x, rfl, h⟩ := lift_inv hF
  obtain ⟨y, hy, rfl⟩ := Option.map_eq_some_iff.1 h
  unfold Lslices_Clone_of__api_Output_api_Output at hy
  obtain ⟨_, u1, hy⟩ := bs hy
  obtain rfl := Option.some.inj hy
  exact ⟨x, rfl, rfl⟩
 ·refine impl_of (T := Av.tab []) mixed htt (Av.tab_ok trivial) Tryd.func86 body86 (by kernel_rfl) fun ps r' ho hF' => ?_
  split at hF'
  ·rename_i hps
   subst hps
   injection hF' with hF'
   subst hF'
   obtain ⟨x, hx, h⟩ := lift_inv hF
   obtain rfl := E86i l x hx
   obtain ⟨y, hy, rfl⟩ := Option.map_eq_some_iff.1 h
   have hy' := hy
   unfold Lslices_Clone_of__api_Output_api_Output at hy'
   obtain ⟨_, u1, hy'⟩ := bs hy'
   obtain rfl := Option.some.inj hy'
   exact w86 l hl _ hy
  ·cases hF'
 ·cases x with
  | none => exact (cnil86 c w).mono fun e w' h => ⟨none, h.1, .inl h.2⟩
  | some b => exact (csome86 b c w).mono fun e w' h => ⟨_, h.1, .inr h.2⟩
end Go.Proofs.YtconfbgcjkjnkaaDoor
