import Derived.Test.YtconfbgcjkjnkaaDoorLfK
import Derived.Test.YtconfbgcjkjnkaaDoorCode
namespace Go.Proofs.YtconfbgcjkjnkaaDoor
open Go.RowKit
open Go.Av
open Go.Lc
set_option maxRecDepth 100000
set_option linter.unusedSimpArgs false
set_option linter.unusedVariables false
set_option maxHeartbeats 4000000
theorem cnil88 (c : Nat) (w : World) : Calls Tryd.prog 88 #[.slice none 0 c] w fun e w' => e = .returned (.slice none 0 0) ∧ w' = w := by
 have h1 : ∀ w, (binOp .eql 60 (.slice none 0 c) (.slice none 0 0)).run Tryd.prog w = .ok (.bool true) w := fun w => by
  have h : ∀ d : Nat, (Op.equalIn (d + 1) 60 (.slice none 0 c) (.slice none 0 0)).run Tryd.prog w = .ok true w := fun d => by
   simp [Op.equalIn, run_underlying Tryd.underlying60]
  have h' : (Op.equal 60 (.slice none 0 c) (.slice none 0 0)).run Tryd.prog w = .ok true w := h 9999
  simp [binOp, h']
 go_enter Tryd.func88, Tryd.ntmps88
 go_wp2
 go_ret
 exact ⟨rfl, rfl⟩
theorem csome88 (b : Addr) (c : Nat) (w : World) : Calls Tryd.prog 88 #[.slice (some b) 0 c] w fun e w' => e = .returned (.slice (some ⟨w.heap.size, 0, none⟩) 0 0) ∧ w' = w.alloc (.cells #[] 5) := by
 have h1 : ∀ w, (binOp .eql 60 (.slice (some b) 0 c) (.slice none 0 0)).run Tryd.prog w = .ok (.bool false) w := fun w => by
  have h : (Op.equal 60 (.slice (some b) 0 c) (.slice none 0 0)).run Tryd.prog w = .ok false w := eqIn_slice 9999 Tryd.underlying60
  simp [binOp, h]
 have h2 : ∀ w, (Instr.buildSlice 60 0 #[]).run Tryd.prog w = .ok (.slice (some ⟨w.heap.size, 0, none⟩) 0 0) (w.alloc (.cells #[] 5)) := fun w => by kernel_rfl
 have hi0 : (Tryd.prog.info? 5).isSome = true := by kernel_rfl
 obtain ⟨i, hi⟩ := Option.isSome_iff_exists.1 hi0
 have h3 : ∀ (w : World) (x : Option Addr) ty, (Builtin.append_ #[60, 60] ty #[.slice x 0 0, .slice (some b) 0 c]).run Tryd.prog w = .ok (.slice x 0 0) w := fun w x ty => run_append_zero w 60 ty 5 i Tryd.underlying60 hi x (some b) 0 0 c (Nat.le_refl _)
 clear hi hi0
 go_enter Tryd.func88, Tryd.ntmps88
 go_wp2
 go_ret
 exact ⟨rfl, rfl⟩
def kp88 : Keep := fun i => ⟨[], [], []⟩
theorem w88 {T : Tab} (a0 : (List Int)) (hne : a0 ≠ []) (x : (List Int)) (hr : Lbytes_Clone a0 = some x) : ∃ kp fl n, execFn tt T G kp fl n Tryd.f88 [.one (.slice .no (intsR .u8 a0))] = some (.one (.own 1 (intsR .u8 a0)), []) := by
 refine fnE (kp := kp88) (w := true) body88 (by simp) ?_
 unfold c88
 rw [Tryd.ntmps88]
 unfold Lbytes_Clone at hr
 obtain ⟨_, u1, hr⟩ := bs hr
 have u2 := chk_some u1
 have n1 : a0.length ≤ 140737488355328 := by omega
 have n2 : a0.length ≤ 9223372036854775807 := by omega
 have ne : intsR .u8 a0 ≠ [] := fun h => hne (by simpa [intsR] using h)
 refine ee_seq_reg rfl (by simp; rfl) ?_
 first
 | (refine ee_assoc ?_; refine ee_seq_reg rfl (by simp [hne, ne]; rfl) ?_)
 | refine ee_seq_reg rfl (by simp [hne, ne]; rfl) ?_
 refine ee_seq_condF (by simp [bV]) ?_
 refine ee_seq_skip ?_
 refine ee_seq_reg rfl (by simp [n1, n2]; rfl) ?_
 refine ee_ret ?_
 simp [FinQ]
theorem v88 : Impl Tryd.prog G 88 G88 := by
 refine clone_impl (e := 1) (t := 5) (N := 0) (rows := fun l : (List Int) => intsR .u8 l) Tryd.func88 (by kernel_rfl) (by kernel_rfl) G88 (fun ps r hF => ?_) rfl (fun l hl r hF => ?_) (fun x c w => ?_)
 ·obtain ⟨x, rfl, h⟩ := lift_inv hF
  obtain ⟨y, hy, rfl⟩ := Option.map_eq_some_iff.1 h
  unfold Lbytes_Clone at hy
  obtain ⟨_, u1, hy⟩ := bs hy
  obtain rfl := Option.some.inj hy
  exact ⟨x, rfl, rfl⟩
 ·refine impl_of (T := Av.tab []) mixed htt (Av.tab_ok trivial) Tryd.func88 body88 (by kernel_rfl) fun ps r' ho hF' => ?_
  split at hF'
  ·rename_i hps
   subst hps
   injection hF' with hF'
   subst hF'
   obtain ⟨x, hx, h⟩ := lift_inv hF
   obtain rfl := E88i l x hx
   obtain ⟨y, hy, rfl⟩ := Option.map_eq_some_iff.1 h
   have hy' := hy
   unfold Lbytes_Clone at hy'
   obtain ⟨_, u1, hy'⟩ := bs hy'
   obtain rfl := Option.some.inj hy'
   exact w88 l hl _ hy
  ·cases hF'
 ·cases x with
  | none => exact (cnil88 c w).mono fun e w' h => ⟨none, h.1, .inl h.2⟩
  | some b => exact (csome88 b c w).mono fun e w' h => ⟨_, h.1, .inr h.2⟩
theorem cnil100 (c : Nat) (w : World) : Calls Tryd.prog 100 #[.slice none 0 c] w fun e w' => e = .returned (.slice none 0 0) ∧ w' = w := by
 have h1 : ∀ w, (binOp .eql 36 (.slice none 0 c) (.slice none 0 0)).run Tryd.prog w = .ok (.bool true) w := fun w => by
  have h : ∀ d : Nat, (Op.equalIn (d + 1) 36 (.slice none 0 c) (.slice none 0 0)).run Tryd.prog w = .ok true w := fun d => by
   simp [Op.equalIn, run_underlying Tryd.underlying36]
  have h' : (Op.equal 36 (.slice none 0 c) (.slice none 0 0)).run Tryd.prog w = .ok true w := h 9999
  simp [binOp, h']
 go_enter Tryd.func100, Tryd.ntmps100
 go_wp2
 go_ret
 exact ⟨rfl, rfl⟩
theorem csome100 (b : Addr) (c : Nat) (w : World) : Calls Tryd.prog 100 #[.slice (some b) 0 c] w fun e w' => e = .returned (.slice (some ⟨w.heap.size, 0, none⟩) 0 0) ∧ w' = w.alloc (.cells #[] 60) := by
 have h1 : ∀ w, (binOp .eql 36 (.slice (some b) 0 c) (.slice none 0 0)).run Tryd.prog w = .ok (.bool false) w := fun w => by
  have h : (Op.equal 36 (.slice (some b) 0 c) (.slice none 0 0)).run Tryd.prog w = .ok false w := eqIn_slice 9999 Tryd.underlying36
  simp [binOp, h]
 have h2 : ∀ w, (Instr.buildSlice 36 0 #[]).run Tryd.prog w = .ok (.slice (some ⟨w.heap.size, 0, none⟩) 0 0) (w.alloc (.cells #[] 60)) := fun w => by kernel_rfl
 have hi0 : (Tryd.prog.info? 60).isSome = true := by kernel_rfl
 obtain ⟨i, hi⟩ := Option.isSome_iff_exists.1 hi0
 have h3 : ∀ (w : World) (x : Option Addr) ty, (Builtin.append_ #[36, 36] ty #[.slice x 0 0, .slice (some b) 0 c]).run Tryd.prog w = .ok (.slice x 0 0) w := fun w x ty => run_append_zero w 36 ty 60 i Tryd.underlying36 hi x (some b) 0 0 c (Nat.le_refl _)
 clear hi hi0
 go_enter Tryd.func100, Tryd.ntmps100
 go_wp2
 go_ret
 exact ⟨rfl, rfl⟩
def kp100 : Keep := fun i => ⟨[], [], []⟩
theorem w100 {T : Tab} (a0 : (List (List Int))) (hne : a0 ≠ []) (x : (List (List Int))) (hr : Lslices_Clone_of__byte_byte a0 = some x) : ∃ kp fl n, execFn tt T G kp fl n Tryd.f100 [.one (.slice .no (List.map eS_I_u8 a0))] = some (.one (.own 1 (List.map eS_I_u8 a0)), []) := by
 refine fnE (kp := kp100) (w := true) body100 (by simp) ?_
 unfold c100
 rw [Tryd.ntmps100]
 unfold Lslices_Clone_of__byte_byte at hr
 obtain ⟨_, u1, hr⟩ := bs hr
 have u2 := chk_some u1
 have n1 : a0.length * 24 ≤ 140737488355328 := by omega
 have n2 : a0.length ≤ 9223372036854775807 := by omega
 have ne : List.map eS_I_u8 a0 ≠ [] := fun h => hne (by simpa [intsR] using h)
 refine ee_seq_reg rfl (by simp; rfl) ?_
 first
 | (refine ee_assoc ?_; refine ee_seq_reg rfl (by simp [hne, ne]; rfl) ?_)
 | refine ee_seq_reg rfl (by simp [hne, ne]; rfl) ?_
 refine ee_seq_condF (by simp [bV]) ?_
 refine ee_seq_skip ?_
 refine ee_seq_reg rfl (by simp [n1, n2]; rfl) ?_
 refine ee_ret ?_
 simp [FinQ]
theorem v100 : Impl Tryd.prog G 100 G100 := by
 refine clone_impl (e := 1) (t := 60) (N := 0) (rows := fun l : (List (List Int)) => List.map eS_I_u8 l) Tryd.func100 (by kernel_rfl) (by kernel_rfl) G100 (fun ps r hF => ?_) rfl (fun l hl r hF => ?_) (fun x c w => ?_)
 ·obtain ⟨x, rfl, h⟩ := lift_inv hF
  obtain ⟨y, hy, rfl⟩ := Option.map_eq_some_iff.1 h
  unfold Lslices_Clone_of__byte_byte at hy
  obtain ⟨_, u1, hy⟩ := bs hy
  obtain rfl := Option.some.inj hy
  exact ⟨x, rfl, rfl⟩
 ·refine impl_of (T := Av.tab []) mixed htt (Av.tab_ok trivial) Tryd.func100 body100 (by kernel_rfl) fun ps r' ho hF' => ?_
  split at hF'
  ·rename_i hps
   subst hps
   injection hF' with hF'
   subst hF'
   obtain ⟨x, hx, h⟩ := lift_inv hF
   obtain rfl := E100i l x hx
   obtain ⟨y, hy, rfl⟩ := Option.map_eq_some_iff.1 h
   have hy' := hy
   unfold Lslices_Clone_of__byte_byte at hy'
   obtain ⟨_, u1, hy'⟩ := bs hy'
   obtain rfl := Option.some.inj hy'
   exact w100 l hl _ hy
  ·cases hF'
 ·cases x with
  | none => exact (cnil100 c w).mono fun e w' h => ⟨none, h.1, .inl h.2⟩
  | some b => exact (csome100 b c w).mono fun e w' h => ⟨_, h.1, .inr h.2⟩
theorem w87 : Walk tt G [(88, G88), (100, G100)] (fun _ => []) Tryd.f87 K87 := by
 refine .of [(3, ⟨[0, 7, 8, 9], [6], []⟩)] true body87 Tryd.ntmps87 fun T hO hT a0 x hr => ⟨by simp, ?_⟩
 simp only [tabAll] at hT; simp only at hr ⊢; unfold c87
 unfold Lreplace_cloneItems at hr
 refine go ?_
 obtain ⟨y19, ehy19, hr⟩ := bG hr fun _ => G100_eq
 simp only [E100, R100, nf, nfs] at ehy19
 refine go ?_
 refine lp 3 (fun (⟨p11, p12⟩ : Int × (List (List Int))) => ⟨([.one (.ms 6 0 0 (p12.length) 1)] ++ (und 6 ++ ([.one (.ms 6 0 0 (p12.length) 1), .one (.v (.int .i64 (y19.length : Int))), .one (.v (.int .i64 p11))] ++ (und 11))) : List PV), ([(6, ⟨0, 1, List.map eS_I_u8 p12, false, true⟩)] : Boxes)⟩) hr ?_
 rintro ⟨p11, p12⟩ x26r hr26
 simp only [Lreplace_cloneItems_s1] at hr26
 unfold b87_1
 refine nst ?_
 refine go ?_
 by_cases c27 : p11 < (y19.length : Int)
 ·have c27N := nrm c27
  replace hr26 := ifP hr26
  refine go ?_
  obtain ⟨_, ⟨_, _, _⟩, hr26⟩ := bA hr26
  obtain ⟨_, hx29, hr26⟩ := bs hr26
  have ghx29 := getE_of hx29
  refine go ?_
  obtain ⟨_, ehy30, hr26⟩ := bG hr26 fun _ => G88_eq
  simp only [E88, R88, nf, nfs] at ehy30
  refine go ?_
  exact bk hr26
 ·have c27N := nrm c27
  replace hr26 := ifN hr26
  refine go ?_
  obtain ⟨r31, q31, rfl⟩ := ms hr26
  refine go ?_
  rintro rfl
  refine go ?_
  unfold Lreplace_cloneItems_k1 at q31
  refine go ?_
  exact fin q31
theorem w59 : Walk tt G [(85, G85), (86, G86), (87, K87.G), (88, G88)] (fun _ => []) Tryd.f59 K59 := by
 refine .of [(3, ⟨[1, 2, 16, 17, 18], [1, 2, 9, 12], []⟩), (8, ⟨[1, 2, 33, 34, 35], [1, 2, 9, 12], []⟩)] true body59 Tryd.ntmps59 fun T hO hT a0 x hr => ⟨by simp, ?_⟩
 simp only [tabAll] at hT; simp only at hr ⊢; unfold c59
 unfold Lreplace_cloneTx at hr
 refine go ?_
 obtain ⟨y37, ehy37, hr⟩ := bG hr fun _ => G85_eq
 simp only [E85, R85, nf, nfs] at ehy37
 obtain ⟨y38, ehy38, hr⟩ := bG hr fun _ => G86_eq
 simp only [E86, R86, nf, nfs] at ehy38
 refine go ?_
 refine lp 3 (fun (⟨p12, p13⟩ : Int × (List Tapi_Input)) => ⟨(und 1 ++ ([.ptr 1 0 0 0 4, .ptr 2 0 0 0 4] ++ (und 13 ++ ([.one (.ms 9 0 0 (p13.length) 35), .one (.v (.int .i64 (y37.length : Int))), .one (.v (.int .i64 p12))] ++ (und 31)))) : List PV), ([(1, ⟨0, 4, [[.v (.int .u32 a0.1), .ms 9 0 0 (p13.length) 35, .ms 12 0 0 (y38.length) 2, .v (.int .u32 a0.2.2.2)]], false, false⟩), (2, ⟨0, 4, [[.v (.int .u32 0), .slice .nil [], .slice .nil [], .v (.int .u32 0)]], false, false⟩), (9, ⟨0, 35, List.map eapi_Input p13, false, true⟩), (12, ⟨0, 2, List.map eapi_Output y38, false, true⟩)] : Boxes)⟩) hr ?_
 rintro ⟨p12, p13⟩ x45r hr45
 simp only [Lreplace_cloneTx_s1] at hr45
 unfold b59_1
 refine nst ?_
 refine go ?_
 by_cases c46 : p12 < (y37.length : Int)
 ·have c46N := nrm c46
  replace hr45 := ifP hr45
  refine go ?_
  obtain ⟨_, ⟨_, _, _⟩, hr45⟩ := bA hr45
  obtain ⟨_, hx48, hr45⟩ := bs hr45
  have ghx48 := getE_of hx48
  refine go ?_
  obtain ⟨_, ehy49, hr45⟩ := bN hr45 G87_eq
  have ghx48 := getE_of hx48
  refine go ?_
  exact bk hr45
 ·have c46N := nrm c46
  replace hr45 := ifN hr45
  refine go ?_
  obtain ⟨r50, q50, rfl⟩ := ms hr45
  refine go ?_
  rintro rfl
  refine go ?_
  unfold Lreplace_cloneTx_k1 at q50
  refine go ?_
  refine lp 8 (fun (⟨p26, p27⟩ : Int × (List Tapi_Output)) => ⟨(und 1 ++ ([.ptr 1 0 0 0 4, .ptr 2 0 0 0 4] ++ (und 30 ++ ([.one (.ms 12 0 0 (p27.length) 2), .one (.v (.int .i64 (y38.length : Int))), .one (.v (.int .i64 p26))] ++ (und 14)))) : List PV), ([(1, ⟨0, 4, [[.v (.int .u32 a0.1), .ms 9 0 0 (p13.length) 35, .ms 12 0 0 (p27.length) 2, .v (.int .u32 a0.2.2.2)]], false, false⟩), (2, ⟨0, 4, [[.v (.int .u32 0), .slice .nil [], .slice .nil [], .v (.int .u32 0)]], false, false⟩), (9, ⟨0, 35, List.map eapi_Input p13, false, true⟩), (12, ⟨0, 2, List.map eapi_Output p27, false, true⟩)] : Boxes)⟩) q50 ?_
  rintro ⟨p26, p27⟩ x57r hr57
  simp only [Lreplace_cloneTx_s2] at hr57
  unfold b59_2
  refine nst ?_
  refine go ?_
  by_cases c58 : p26 < (y38.length : Int)
  ·have c58N := nrm c58
   replace hr57 := ifP hr57
   refine go ?_
   obtain ⟨_, ⟨_, _, _⟩, hr57⟩ := bA hr57
   obtain ⟨_, hx60, hr57⟩ := bs hr57
   have ghx60 := getE_of hx60
   refine go ?_
   obtain ⟨_, ehy61, hr57⟩ := bG hr57 fun _ => G88_eq
   simp only [E88, R88, nf, nfs] at ehy61
   have ghx60 := getE_of hx60
   refine go ?_
   exact bk hr57
  ·have c58N := nrm c58
   replace hr57 := ifN hr57
   refine go ?_
   obtain ⟨r62, q62, rfl⟩ := ms hr57
   refine go ?_
   rintro rfl
   refine go ?_
   unfold Lreplace_cloneTx_k2 at q62
   refine go ?_
   exact fin q62
theorem w58_29 : Walk tt G [(43, K43.G)] (fun _ => []) Tryd.f58 K58_29 := by
 refine .of [] false body58 Tryd.ntmps58 fun T hO hT ⟨a0, a1⟩ x hr => ⟨by simp, ?_⟩
 simp only [tabAll] at hT; simp only at hr ⊢; unfold c58
 unfold Lreplace_Insert_1__r at hr
 refine go ?_
 obtain ⟨_, ehy2, hr⟩ := bN hr G43_eq
 refine go ?_
 exact fin hr
theorem w77_30 : Walk tt G [(58, K58_29.G)] (fun _ => []) Tryd.f77 K77_30 := by
 refine .of [(2, ⟨[0, 1, 7, 8], [], []⟩)] false body77 Tryd.ntmps77 fun T hO hT ⟨a0, a1⟩ x hr => ⟨by simp, ?_⟩
 simp only [tabAll] at hT; simp only at hr ⊢; unfold c77
 unfold Lslices_IndexFunc_of__api_Entry_api_Entry__replace_Insert_1 at hr
 refine go ?_
 refine lp 2 (fun (p6 : Int) => ⟨([.one (.slice .no (List.map eapi_Entry a0)), .clo 58 [.ref (arC .u8 a1)]] ++ (und 5 ++ ([.one (.v (.int .i64 (a0.length : Int))), .one (.v (.int .i64 p6))] ++ (und 10))) : List PV), ([] : Boxes)⟩) hr ?_
 rintro p6 x17r hr17
 simp only [Lslices_IndexFunc_of__api_Entry_api_Entry__replace_Insert_1_s1] at hr17
 unfold b77_1
 refine nst ?_
 refine go ?_
 by_cases c18 : p6 < (a0.length : Int)
 ·have c18N := nrm c18
  replace hr17 := ifP hr17
  refine go ?_
  obtain ⟨_, ⟨_, _, _⟩, hr17⟩ := bI hr17
  obtain ⟨y20, ehy20, hr17⟩ := bN hr17 G58_29_eq
  refine go ?_
  by_cases c21 : y20 = true
  ·replace hr17 := ifP hr17
   refine go ?_
   exact fin hr17
  ·replace hr17 := ifN hr17
   refine go ?_
   exact bk hr17
 ·have c18N := nrm c18
  replace hr17 := ifN hr17
  refine go ?_
  obtain ⟨r22, q22, rfl⟩ := ms hr17
  refine go ?_
  rintro rfl
  refine go ?_
  unfold Lslices_IndexFunc_of__api_Entry_api_Entry__replace_Insert_1_k1 at q22
  refine go ?_
  exact fin q22
theorem w41_31 : Walk tt G [(77, K77_30.G)] (fun _ => []) Tryd.f41 K41_31 := by
 refine .of [] false body41 Tryd.ntmps41 fun T hO hT ⟨a0, a1⟩ x hr => ⟨by simp, ?_⟩
 simp only [tabAll] at hT; simp only at hr ⊢; unfold c41
 unfold Lslices_ContainsFunc_of__api_Entry_api_Entry__replace_Insert_1 at hr
 refine go ?_
 obtain ⟨_, ehy2, hr⟩ := bN hr G77_30_eq
 refine go ?_
 exact fin hr
end Go.Proofs.YtconfbgcjkjnkaaDoor
