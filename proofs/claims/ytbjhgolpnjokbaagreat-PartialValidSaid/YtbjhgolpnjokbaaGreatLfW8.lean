import Derived.Test.YtbjhgolpnjokbaaGreatLfK
import Derived.Test.YtbjhgolpnjokbaaGreatCode
import Derived.Test.YtbjhgolpnjokbaaGreatBl
namespace Go.Proofs.YtbjhgolpnjokbaaGreat
open Go.RowKit
open Go.Av
open Go.Lc
set_option maxRecDepth 100000
set_option linter.unusedSimpArgs false
set_option linter.unusedVariables false
set_option maxHeartbeats 4000000
variable {G : Glob}
theorem Zr8 (c : Nat) (w : World) : Calls Tryz.prog 89 #[.slice none 0 c] w fun e w' => e = .returned (.slice none 0 0) ∧ w' = w := by
 have h1 : ∀ w, (binOp .eql 25 (.slice none 0 c) (.slice none 0 0)).run Tryz.prog w = .ok (.bool true) w := fun w => by
  have h : ∀ d : Nat, (Op.equalIn (d + 1) 25 (.slice none 0 c) (.slice none 0 0)).run Tryz.prog w = .ok true w := fun d => by
   simp [Op.equalIn, run_underlying Tryz.underlying25]
  have h' : (Op.equal 25 (.slice none 0 c) (.slice none 0 0)).run Tryz.prog w = .ok true w := h 9999
  simp [binOp, h']
 go_enter Tryz.func89, Tryz.ntmps89
 go_wp2
 go_ret
 exact ⟨rfl, rfl⟩
theorem ZqT (b : Addr) (c : Nat) (w : World) : Calls Tryz.prog 89 #[.slice (some b) 0 c] w fun e w' => e = .returned (.slice (some ⟨w.heap.size, 0, none⟩) 0 0) ∧ w' = w.alloc (.cells #[] 108) := by
 have h1 : ∀ w, (binOp .eql 25 (.slice (some b) 0 c) (.slice none 0 0)).run Tryz.prog w = .ok (.bool false) w := fun w => by
  have h : (Op.equal 25 (.slice (some b) 0 c) (.slice none 0 0)).run Tryz.prog w = .ok false w := Zc9 9999 Tryz.underlying25
  simp [binOp, h]
 have h2 : ∀ w, (Instr.buildSlice 25 0 #[]).run Tryz.prog w = .ok (.slice (some ⟨w.heap.size, 0, none⟩) 0 0) (w.alloc (.cells #[] 108)) := fun w => by kernel_rfl
 have hi0 : (Tryz.prog.info? 108).isSome = true := by kernel_rfl
 obtain ⟨i, hi⟩ := Option.isSome_iff_exists.1 hi0
 have h3 : ∀ (w : World) (x : Option Addr) ty, (Builtin.append_ #[25, 25] ty #[.slice x 0 0, .slice (some b) 0 c]).run Tryz.prog w = .ok (.slice x 0 0) w := fun w x ty => Zbl w 25 ty 108 i Tryz.underlying25 hi x (some b) 0 0 c (Nat.le_refl _)
 clear hi hi0
 go_enter Tryz.func89, Tryz.ntmps89
 go_wp2
 go_ret
 exact ⟨rfl, rfl⟩
def kp89 : Keep := fun i => ⟨[], [], []⟩
theorem w89 {T : Tab} (a0 : (List Tapi_Input)) (hne : a0 ≠ []) (x : (List Tapi_Input)) (hr : ZV a0 = some x) : ∃ kp fl n, Zs tt T G kp fl n Tryz.f89 [.one (.slice .no (List.map Zm a0))] = some (.one (.own 35 (List.map Zm a0)), []) := by
 refine fnE (kp := kp89) (w := true) body89 (by simp) ?_
 unfold c89
 rw [Tryz.ntmps89]
 unfold ZV at hr
 obtain ⟨_, u1, hr⟩ := bs hr
 have u2 := ZE u1
 have n1 : a0.length * 64 ≤ 140737488355328 := by omega
 have n2 : a0.length ≤ 9223372036854775807 := by omega
 have ne : List.map Zm a0 ≠ [] := fun h => hne (by simpa [Zk] using h)
 refine Za rfl (by simp; rfl) ?_
 first
 | (refine Zb ?_; refine Za rfl (by simp [hne, ne]; rfl) ?_)
 | refine Za rfl (by simp [hne, ne]; rfl) ?_
 refine Ze (by simp [bV]) ?_
 refine Zg ?_
 refine Za rfl (by simp [n1, n2]; rfl) ?_
 refine Zi ?_
 simp [Zj]
theorem v89 : ZG Tryz.prog G 89 G89 := by
 refine Zei (e := 35) (t := 108) (N := 0) (rows := fun l : (List Tapi_Input) => List.map Zm l) Tryz.func89 (by kernel_rfl) (by kernel_rfl) G89 (fun ps r hF => ?_) rfl (fun l hl r hF => ?_) (fun x c w => ?_)
 ·obtain ⟨x, rfl, h⟩ := Zay hF
  obtain ⟨y, hy, rfl⟩ := Option.map_eq_some_iff.1 h
  unfold ZV at hy
  obtain ⟨_, u1, hy⟩ := bs hy
  obtain rfl := Option.some.inj hy
  exact ⟨x, rfl, rfl⟩
 ·refine ZfK (T := Av.tab []) mixed htt (Av.tab_ok trivial) Tryz.func89 body89 (by kernel_rfl) fun ps r' ho hF' => ?_
  split at hF'
  ·rename_i hps
   subst hps
   injection hF' with hF'
   subst hF'
   obtain ⟨x, hx, h⟩ := Zay hF
   obtain rfl := E89i l x hx
   obtain ⟨y, hy, rfl⟩ := Option.map_eq_some_iff.1 h
   have hy' := hy
   unfold ZV at hy'
   obtain ⟨_, u1, hy'⟩ := bs hy'
   obtain rfl := Option.some.inj hy'
   exact w89 l hl _ hy
  ·cases hF'
 ·cases x with
  | none => exact (Zr8 c w).mono fun e w' h => ⟨none, h.1, .inl h.2⟩
  | some b => exact (ZqT b c w).mono fun e w' h => ⟨_, h.1, .inr h.2⟩
theorem Zr9 (c : Nat) (w : World) : Calls Tryz.prog 90 #[.slice none 0 c] w fun e w' => e = .returned (.slice none 0 0) ∧ w' = w := by
 have h1 : ∀ w, (binOp .eql 26 (.slice none 0 c) (.slice none 0 0)).run Tryz.prog w = .ok (.bool true) w := fun w => by
  have h : ∀ d : Nat, (Op.equalIn (d + 1) 26 (.slice none 0 c) (.slice none 0 0)).run Tryz.prog w = .ok true w := fun d => by
   simp [Op.equalIn, run_underlying Tryz.underlying26]
  have h' : (Op.equal 26 (.slice none 0 c) (.slice none 0 0)).run Tryz.prog w = .ok true w := h 9999
  simp [binOp, h']
 go_enter Tryz.func90, Tryz.ntmps90
 go_wp2
 go_ret
 exact ⟨rfl, rfl⟩
theorem ZqU (b : Addr) (c : Nat) (w : World) : Calls Tryz.prog 90 #[.slice (some b) 0 c] w fun e w' => e = .returned (.slice (some ⟨w.heap.size, 0, none⟩) 0 0) ∧ w' = w.alloc (.cells #[] 103) := by
 have h1 : ∀ w, (binOp .eql 26 (.slice (some b) 0 c) (.slice none 0 0)).run Tryz.prog w = .ok (.bool false) w := fun w => by
  have h : (Op.equal 26 (.slice (some b) 0 c) (.slice none 0 0)).run Tryz.prog w = .ok false w := Zc9 9999 Tryz.underlying26
  simp [binOp, h]
 have h2 : ∀ w, (Instr.buildSlice 26 0 #[]).run Tryz.prog w = .ok (.slice (some ⟨w.heap.size, 0, none⟩) 0 0) (w.alloc (.cells #[] 103)) := fun w => by kernel_rfl
 have hi0 : (Tryz.prog.info? 103).isSome = true := by kernel_rfl
 obtain ⟨i, hi⟩ := Option.isSome_iff_exists.1 hi0
 have h3 : ∀ (w : World) (x : Option Addr) ty, (Builtin.append_ #[26, 26] ty #[.slice x 0 0, .slice (some b) 0 c]).run Tryz.prog w = .ok (.slice x 0 0) w := fun w x ty => Zbl w 26 ty 103 i Tryz.underlying26 hi x (some b) 0 0 c (Nat.le_refl _)
 clear hi hi0
 go_enter Tryz.func90, Tryz.ntmps90
 go_wp2
 go_ret
 exact ⟨rfl, rfl⟩
def kp90 : Keep := fun i => ⟨[], [], []⟩
theorem w90 {T : Tab} (a0 : (List Tapi_Output)) (hne : a0 ≠ []) (x : (List Tapi_Output)) (hr : ZT a0 = some x) : ∃ kp fl n, Zs tt T G kp fl n Tryz.f90 [.one (.slice .no (List.map Zl a0))] = some (.one (.own 2 (List.map Zl a0)), []) := by
 refine fnE (kp := kp90) (w := true) body90 (by simp) ?_
 unfold c90
 rw [Tryz.ntmps90]
 unfold ZT at hr
 obtain ⟨_, u1, hr⟩ := bs hr
 have u2 := ZE u1
 have n1 : a0.length * 32 ≤ 140737488355328 := by omega
 have n2 : a0.length ≤ 9223372036854775807 := by omega
 have ne : List.map Zl a0 ≠ [] := fun h => hne (by simpa [Zk] using h)
 refine Za rfl (by simp; rfl) ?_
 first
 | (refine Zb ?_; refine Za rfl (by simp [hne, ne]; rfl) ?_)
 | refine Za rfl (by simp [hne, ne]; rfl) ?_
 refine Ze (by simp [bV]) ?_
 refine Zg ?_
 refine Za rfl (by simp [n1, n2]; rfl) ?_
 refine Zi ?_
 simp [Zj]
theorem v90 : ZG Tryz.prog G 90 G90 := by
 refine Zei (e := 2) (t := 103) (N := 0) (rows := fun l : (List Tapi_Output) => List.map Zl l) Tryz.func90 (by kernel_rfl) (by kernel_rfl) G90 (fun ps r hF => ?_) rfl (fun l hl r hF => ?_) (fun x c w => ?_)
 ·obtain ⟨x, rfl, h⟩ := Zay hF
  obtain ⟨y, hy, rfl⟩ := Option.map_eq_some_iff.1 h
  unfold ZT at hy
  obtain ⟨_, u1, hy⟩ := bs hy
  obtain rfl := Option.some.inj hy
  exact ⟨x, rfl, rfl⟩
 ·refine ZfK (T := Av.tab []) mixed htt (Av.tab_ok trivial) Tryz.func90 body90 (by kernel_rfl) fun ps r' ho hF' => ?_
  split at hF'
  ·rename_i hps
   subst hps
   injection hF' with hF'
   subst hF'
   obtain ⟨x, hx, h⟩ := Zay hF
   obtain rfl := E90i l x hx
   obtain ⟨y, hy, rfl⟩ := Option.map_eq_some_iff.1 h
   have hy' := hy
   unfold ZT at hy'
   obtain ⟨_, u1, hy'⟩ := bs hy'
   obtain rfl := Option.some.inj hy'
   exact w90 l hl _ hy
  ·cases hF'
 ·cases x with
  | none => exact (Zr9 c w).mono fun e w' h => ⟨none, h.1, .inl h.2⟩
  | some b => exact (ZqU b c w).mono fun e w' h => ⟨_, h.1, .inr h.2⟩
theorem ZqV (c : Nat) (w : World) : Calls Tryz.prog 104 #[.slice none 0 c] w fun e w' => e = .returned (.slice none 0 0) ∧ w' = w := by
 have h1 : ∀ w, (binOp .eql 63 (.slice none 0 c) (.slice none 0 0)).run Tryz.prog w = .ok (.bool true) w := fun w => by
  have h : ∀ d : Nat, (Op.equalIn (d + 1) 63 (.slice none 0 c) (.slice none 0 0)).run Tryz.prog w = .ok true w := fun d => by
   simp [Op.equalIn, run_underlying Tryz.underlying63]
  have h' : (Op.equal 63 (.slice none 0 c) (.slice none 0 0)).run Tryz.prog w = .ok true w := h 9999
  simp [binOp, h']
 go_enter Tryz.func104, Tryz.ntmps104
 go_wp2
 go_ret
 exact ⟨rfl, rfl⟩
theorem ZpP (b : Addr) (c : Nat) (w : World) : Calls Tryz.prog 104 #[.slice (some b) 0 c] w fun e w' => e = .returned (.slice (some ⟨w.heap.size, 0, none⟩) 0 0) ∧ w' = w.alloc (.cells #[] 49) := by
 have h1 : ∀ w, (binOp .eql 63 (.slice (some b) 0 c) (.slice none 0 0)).run Tryz.prog w = .ok (.bool false) w := fun w => by
  have h : (Op.equal 63 (.slice (some b) 0 c) (.slice none 0 0)).run Tryz.prog w = .ok false w := Zc9 9999 Tryz.underlying63
  simp [binOp, h]
 have h2 : ∀ w, (Instr.buildSlice 63 0 #[]).run Tryz.prog w = .ok (.slice (some ⟨w.heap.size, 0, none⟩) 0 0) (w.alloc (.cells #[] 49)) := fun w => by kernel_rfl
 have hi0 : (Tryz.prog.info? 49).isSome = true := by kernel_rfl
 obtain ⟨i, hi⟩ := Option.isSome_iff_exists.1 hi0
 have h3 : ∀ (w : World) (x : Option Addr) ty, (Builtin.append_ #[63, 63] ty #[.slice x 0 0, .slice (some b) 0 c]).run Tryz.prog w = .ok (.slice x 0 0) w := fun w x ty => Zbl w 63 ty 49 i Tryz.underlying63 hi x (some b) 0 0 c (Nat.le_refl _)
 clear hi hi0
 go_enter Tryz.func104, Tryz.ntmps104
 go_wp2
 go_ret
 exact ⟨rfl, rfl⟩
def kp104 : Keep := fun i => ⟨[], [], []⟩
theorem w104 {T : Tab} (a0 : (List (List Int))) (hne : a0 ≠ []) (x : (List (List Int))) (hr : Yb a0 = some x) : ∃ kp fl n, Zs tt T G kp fl n Tryz.f104 [.one (.slice .no (List.map Yi a0))] = some (.one (.own 1 (List.map Yi a0)), []) := by
 refine fnE (kp := kp104) (w := true) body104 (by simp) ?_
 unfold c104
 rw [Tryz.ntmps104]
 unfold Yb at hr
 obtain ⟨_, u1, hr⟩ := bs hr
 have u2 := ZE u1
 have n1 : a0.length * 24 ≤ 140737488355328 := by omega
 have n2 : a0.length ≤ 9223372036854775807 := by omega
 have ne : List.map Yi a0 ≠ [] := fun h => hne (by simpa [Zk] using h)
 refine Za rfl (by simp; rfl) ?_
 first
 | (refine Zb ?_; refine Za rfl (by simp [hne, ne]; rfl) ?_)
 | refine Za rfl (by simp [hne, ne]; rfl) ?_
 refine Ze (by simp [bV]) ?_
 refine Zg ?_
 refine Za rfl (by simp [n1, n2]; rfl) ?_
 refine Zi ?_
 simp [Zj]
theorem v104 : ZG Tryz.prog G 104 G104 := by
 refine Zei (e := 1) (t := 49) (N := 0) (rows := fun l : (List (List Int)) => List.map Yi l) Tryz.func104 (by kernel_rfl) (by kernel_rfl) G104 (fun ps r hF => ?_) rfl (fun l hl r hF => ?_) (fun x c w => ?_)
 ·obtain ⟨x, rfl, h⟩ := Zay hF
  obtain ⟨y, hy, rfl⟩ := Option.map_eq_some_iff.1 h
  unfold Yb at hy
  obtain ⟨_, u1, hy⟩ := bs hy
  obtain rfl := Option.some.inj hy
  exact ⟨x, rfl, rfl⟩
 ·refine ZfK (T := Av.tab []) mixed htt (Av.tab_ok trivial) Tryz.func104 body104 (by kernel_rfl) fun ps r' ho hF' => ?_
  split at hF'
  ·rename_i hps
   subst hps
   injection hF' with hF'
   subst hF'
   obtain ⟨x, hx, h⟩ := Zay hF
   obtain rfl := E104i l x hx
   obtain ⟨y, hy, rfl⟩ := Option.map_eq_some_iff.1 h
   have hy' := hy
   unfold Yb at hy'
   obtain ⟨_, u1, hy'⟩ := bs hy'
   obtain rfl := Option.some.inj hy'
   exact w104 l hl _ hy
  ·cases hF'
 ·cases x with
  | none => exact (ZqV c w).mono fun e w' h => ⟨none, h.1, .inl h.2⟩
  | some b => exact (ZpP b c w).mono fun e w' h => ⟨_, h.1, .inr h.2⟩
def kp91 : Keep := fun i => if i = 3 then ⟨[0, 7, 8, 9], [6], []⟩ else ⟨[], [], []⟩
theorem w91 {T : Tab} (hO : T.own = fun _ => []) (hT56 : T 56 = some G56) (hT104 : T 104 = some G104) (a0 : (List (List Int))) (x : (List (List Int))) (hr : YI a0 = some x) : ∃ kp fl n, Zs tt T G kp fl n Tryz.f91 (E91 a0) = some (R91 a0 x) := by
 simp only [E91, R91]
 refine fnE (kp := kp91) (w := true) body91 (by simp) ?_
 unfold c91
 rw [Tryz.ntmps91]
 unfold YI at hr
 refine Za rfl (by simp []; rfl) ?_
 obtain ⟨y19, hy19, hr⟩ := bs hr
 have ehy19 := ZqL hy19
 simp only [Zkx, ZpO, nf, nfs] at ehy19
 refine Za rfl (by simp [hO, hT104, ehy19]; rfl) ?_
 refine Zb ?_
 refine Za rfl (by simp []; rfl) ?_
 refine Zh ?_
 refine ZJ (kq := ⟨[0, 7, 8, 9], [6], []⟩) (H := fun (s : Int × (List (List Int))) => match s with | (p11, p12) => (⟨([.one (.ms 6 0 0 (p12.length) 1)] ++ (und 6 ++ ([.one (.ms 6 0 0 (p12.length) 1), .one (.v (.int .i64 (y19.length : Int))), .one (.v (.int .i64 p11))] ++ (und 11))) : List PV), ([(6, ⟨0, 1, List.map Yi p12, false, true⟩)] : Boxes)⟩ : ASt)) (by kernel_rfl) hr (by simp [und, List.replicate, ]) ?_
 rintro ⟨p11, p12⟩ x26r hr26
 simp only [ZbL] at hr26
 unfold b91_1
 simp only [und, List.replicate, List.cons_append, List.nil_append]
 refine Za rfl (by simp []; rfl) ?_
 by_cases c27 : p11 < (y19.length : Int)
 ·skip
  have c27N := c27
  try simp at c27N
  first | have c27M : (_ = _) = True := eq_true c27N | have c27M := c27N
  rw [if_pos] at hr26
  rotate_left
  ·simp [c27, c27M]
  refine Zd (by simp [bV, c27, c27M]) ?_
  refine Zg ?_
  refine Zh ?_
  obtain ⟨j28, hj28, hr26⟩ := bs hr26
  obtain ⟨j28a, j28b, j28c⟩ := Z4 hj28
  obtain ⟨x29, hx29, hr26⟩ := bs hr26
  have ghx29 := Zr hx29
  refine Za rfl (by simp [j28a, j28b, j28c, hx29, ghx29, c27, c27M]; rfl) ?_
  obtain ⟨y30, hy30, hr26⟩ := bs hr26
  have ehy30 := Zmi hy30
  simp only [E56, R56, nf, nfs] at ehy30
  obtain ⟨j28a, j28b, j28c⟩ := Z4 hj28
  refine Zu rfl (by simp [hO, hT56, ehy30, j28a, j28b, j28c, c27, c27M]; rfl) ?_
  simp only [pq, reduceCtorEq]
  refine Zu rfl (by simp [c27, c27M]; rfl) ?_
  obtain rfl := Option.some.inj hr26
  simp only [pq, reduceCtorEq]
  simp [und, List.replicate, Nat.add_assoc, c27, c27M]
 ·skip
  have c27N := c27
  try simp at c27N
  first | have c27M : (_ = _) = True := eq_true c27N | have c27M := c27N
  rw [if_neg] at hr26
  rotate_left
  ·simp [c27, c27M]
  refine Ze (by simp [bV, c27, c27M]) ?_
  refine Zq ?_
  obtain ⟨r31, q31, rfl⟩ := ms hr26
  simp only [pq, reduceCtorEq]
  rintro rfl
  try simp only [pq, reduceCtorEq]
  unfold Zdx at q31
  refine Za rfl (by simp [c27, c27M]; rfl) ?_
  refine Zi ?_
  obtain rfl := Option.some.inj q31
  simp [Zj, c27, c27M, c27N]
def kp54 : Keep := fun i => if i = 3 then ⟨[1, 2, 16, 17, 18], [1, 2, 9, 12], []⟩ else if i = 8 then ⟨[1, 2, 33, 34, 35], [1, 2, 9, 12], []⟩ else ⟨[], [], []⟩
theorem w54 {T : Tab} (hO : T.own = fun _ => []) (hT56 : T 56 = some G56) (hT89 : T 89 = some G89) (hT90 : T 90 = some G90) (hT91 : T 91 = some G91) (a0 : Tapi_Tx) (x : Tapi_Tx) (hr : Xb a0 = some x) : ∃ kp fl n, Zs tt T G kp fl n Tryz.f54 (E54 a0) = some (R54 a0 x) := by
 simp only [E54, R54]
 refine fnE (kp := kp54) (w := true) body54 (by simp) ?_
 unfold c54
 rw [Tryz.ntmps54]
 unfold Xb at hr
 refine Za rfl (by simp []; rfl) ?_
 obtain ⟨y37, hy37, hr⟩ := bs hr
 have ehy37 := ZrG hy37
 simp only [E89, R89, nf, nfs] at ehy37
 obtain ⟨y38, hy38, hr⟩ := bs hr
 have ehy38 := ZrH hy38
 simp only [E90, R90, nf, nfs] at ehy38
 refine ZB rfl (by simp [hO, hT89, ehy37, hT90, ehy38]; first | exact ⟨rfl, rfl⟩ | rfl) (by kernel_rfl) ?_
 refine Zb ?_
 refine Za rfl (by simp []; rfl) ?_
 refine Zh ?_
 refine ZJ (kq := ⟨[1, 2, 16, 17, 18], [1, 2, 9, 12], []⟩) (H := fun (s : Int × (List Tapi_Input)) => match s with | (p12, p13) => (⟨(und 1 ++ ([.ptr 1 0 0 0 4, .ptr 2 0 0 0 4] ++ (und 13 ++ ([.one (.ms 9 0 0 (p13.length) 35), .one (.v (.int .i64 (y37.length : Int))), .one (.v (.int .i64 p12))] ++ (und 31)))) : List PV), ([(1, ⟨0, 4, [[.v (.int .u32 a0.1), .ms 9 0 0 (p13.length) 35, .ms 12 0 0 (y38.length) 2, .v (.int .u32 a0.2.2.2)]], false, false⟩), (2, ⟨0, 4, [[.v (.int .u32 0), .slice .nil [], .slice .nil [], .v (.int .u32 0)]], false, false⟩), (9, ⟨0, 35, List.map Zm p13, false, true⟩), (12, ⟨0, 2, List.map Zl y38, false, true⟩)] : Boxes)⟩ : ASt)) (by kernel_rfl) hr (by simp [und, List.replicate, ]) ?_
 rintro ⟨p12, p13⟩ x45r hr45
 simp only [XY] at hr45
 unfold b54_1
 simp only [und, List.replicate, List.cons_append, List.nil_append]
 refine Za rfl (by simp []; rfl) ?_
 by_cases c46 : p12 < (y37.length : Int)
 ·skip
  have c46N := c46
  try simp at c46N
  first | have c46M : (_ = _) = True := eq_true c46N | have c46M := c46N
  rw [if_pos] at hr45
  rotate_left
  ·simp [c46, c46M]
  refine Zd (by simp [bV, c46, c46M]) ?_
  refine Zg ?_
  refine Zh ?_
  obtain ⟨j47, hj47, hr45⟩ := bs hr45
  obtain ⟨j47a, j47b, j47c⟩ := Z4 hj47
  obtain ⟨x48, hx48, hr45⟩ := bs hr45
  have ghx48 := Zr hx48
  refine Za rfl (by simp [j47a, j47b, j47c, hx48, ghx48, c46, c46M]; rfl) ?_
  obtain ⟨y49, hy49, hr45⟩ := bs hr45
  have ehy49 := ZrI hy49
  simp only [E91, R91, nf, nfs] at ehy49
  obtain ⟨j47a, j47b, j47c⟩ := Z4 hj47
  have ghx48 := Zr hx48
  refine Zdb rfl (by simp [hO, hT91, ehy49, j47a, j47b, j47c, hx48, ghx48, c46, c46M]; first | exact ⟨rfl, rfl⟩ | rfl) (by kernel_rfl) ?_
  simp only [pq, reduceCtorEq]
  refine Zu rfl (by simp [c46, c46M]; rfl) ?_
  obtain rfl := Option.some.inj hr45
  simp only [pq, reduceCtorEq]
  simp [und, List.replicate, Nat.add_assoc, c46, c46M]
 ·skip
  have c46N := c46
  try simp at c46N
  first | have c46M : (_ = _) = True := eq_true c46N | have c46M := c46N
  rw [if_neg] at hr45
  rotate_left
  ·simp [c46, c46M]
  refine Ze (by simp [bV, c46, c46M]) ?_
  refine Zq ?_
  obtain ⟨r50, q50, rfl⟩ := ms hr45
  simp only [pq, reduceCtorEq]
  rintro rfl
  try simp only [pq, reduceCtorEq]
  unfold Za9 at q50
  refine Zb ?_
  refine Za rfl (by simp [c46, c46M]; rfl) ?_
  refine Zh ?_
  refine ZJ (kq := ⟨[1, 2, 33, 34, 35], [1, 2, 9, 12], []⟩) (H := fun (s : Int × (List Tapi_Output)) => match s with | (p26, p27) => (⟨(und 1 ++ ([.ptr 1 0 0 0 4, .ptr 2 0 0 0 4] ++ (und 30 ++ ([.one (.ms 12 0 0 (p27.length) 2), .one (.v (.int .i64 (y38.length : Int))), .one (.v (.int .i64 p26))] ++ (und 14)))) : List PV), ([(1, ⟨0, 4, [[.v (.int .u32 a0.1), .ms 9 0 0 (p13.length) 35, .ms 12 0 0 (p27.length) 2, .v (.int .u32 a0.2.2.2)]], false, false⟩), (2, ⟨0, 4, [[.v (.int .u32 0), .slice .nil [], .slice .nil [], .v (.int .u32 0)]], false, false⟩), (9, ⟨0, 35, List.map Zm p13, false, true⟩), (12, ⟨0, 2, List.map Zl p27, false, true⟩)] : Boxes)⟩ : ASt)) (by kernel_rfl) q50 (by simp [und, List.replicate, c46, c46M]) ?_
  rintro ⟨p26, p27⟩ x57r hr57
  simp only [XX] at hr57
  unfold b54_2
  simp only [und, List.replicate, List.cons_append, List.nil_append]
  refine Za rfl (by simp [c46, c46M]; rfl) ?_
  by_cases c58 : p26 < (y38.length : Int)
  ·skip
   have c58N := c58
   try simp at c58N
   first | have c58M : (_ = _) = True := eq_true c58N | have c58M := c58N
   rw [if_pos] at hr57
   rotate_left
   ·simp [c46, c46M, c58, c58M]
   refine Zd (by simp [bV, c46, c46M, c58, c58M]) ?_
   refine Zg ?_
   refine Zh ?_
   obtain ⟨j59, hj59, hr57⟩ := bs hr57
   obtain ⟨j59a, j59b, j59c⟩ := Z4 hj59
   obtain ⟨x60, hx60, hr57⟩ := bs hr57
   have ghx60 := Zr hx60
   refine Za rfl (by simp [j59a, j59b, j59c, hx60, ghx60, c46, c46M, c58, c58M]; rfl) ?_
   obtain ⟨y61, hy61, hr57⟩ := bs hr57
   have ehy61 := Zmi hy61
   simp only [E56, R56, nf, nfs] at ehy61
   obtain ⟨j59a, j59b, j59c⟩ := Z4 hj59
   have ghx60 := Zr hx60
   refine Zdb rfl (by simp [hO, hT56, ehy61, j59a, j59b, j59c, hx60, ghx60, c46, c46M, c58, c58M]; first | exact ⟨rfl, rfl⟩ | rfl) (by kernel_rfl) ?_
   simp only [pq, reduceCtorEq]
   refine Zu rfl (by simp [c46, c46M, c58, c58M]; rfl) ?_
   obtain rfl := Option.some.inj hr57
   simp only [pq, reduceCtorEq]
   simp [und, List.replicate, Nat.add_assoc, c46, c46M, c58, c58M]
  ·skip
   have c58N := c58
   try simp at c58N
   first | have c58M : (_ = _) = True := eq_true c58N | have c58M := c58N
   rw [if_neg] at hr57
   rotate_left
   ·simp [c46, c46M, c58, c58M]
   refine Ze (by simp [bV, c46, c46M, c58, c58M]) ?_
   refine Zq ?_
   obtain ⟨r62, q62, rfl⟩ := ms hr57
   simp only [pq, reduceCtorEq]
   rintro rfl
   try simp only [pq, reduceCtorEq]
   unfold ZeB at q62
   refine Za rfl (by simp [c46, c46M, c58, c58M]; rfl) ?_
   refine Zi ?_
   obtain rfl := Option.some.inj q62
   simp [Zj, c46, c46M, c58, c58M, c46N, c58N]
theorem Zsa (c : Nat) (w : World) : Calls Tryz.prog 55 #[.slice none 0 c] w fun e w' => e = .returned (.slice none 0 0) ∧ w' = w := by
 have h1 : ∀ w, (binOp .eql 29 (.slice none 0 c) (.slice none 0 0)).run Tryz.prog w = .ok (.bool true) w := fun w => by
  have h : ∀ d : Nat, (Op.equalIn (d + 1) 29 (.slice none 0 c) (.slice none 0 0)).run Tryz.prog w = .ok true w := fun d => by
   simp [Op.equalIn, run_underlying Tryz.underlying29]
  have h' : (Op.equal 29 (.slice none 0 c) (.slice none 0 0)).run Tryz.prog w = .ok true w := h 9999
  simp [binOp, h']
 go_enter Tryz.func55, Tryz.ntmps55
 go_wp2
 go_ret
 exact ⟨rfl, rfl⟩
theorem ZqW (b : Addr) (c : Nat) (w : World) : Calls Tryz.prog 55 #[.slice (some b) 0 c] w fun e w' => e = .returned (.slice (some ⟨w.heap.size, 0, none⟩) 0 0) ∧ w' = w.alloc (.cells #[] 105) := by
 have h1 : ∀ w, (binOp .eql 29 (.slice (some b) 0 c) (.slice none 0 0)).run Tryz.prog w = .ok (.bool false) w := fun w => by
  have h : (Op.equal 29 (.slice (some b) 0 c) (.slice none 0 0)).run Tryz.prog w = .ok false w := Zc9 9999 Tryz.underlying29
  simp [binOp, h]
 have h2 : ∀ w, (Instr.buildSlice 29 0 #[]).run Tryz.prog w = .ok (.slice (some ⟨w.heap.size, 0, none⟩) 0 0) (w.alloc (.cells #[] 105)) := fun w => by kernel_rfl
 have hi0 : (Tryz.prog.info? 105).isSome = true := by kernel_rfl
 obtain ⟨i, hi⟩ := Option.isSome_iff_exists.1 hi0
 have h3 : ∀ (w : World) (x : Option Addr) ty, (Builtin.append_ #[29, 29] ty #[.slice x 0 0, .slice (some b) 0 c]).run Tryz.prog w = .ok (.slice x 0 0) w := fun w x ty => Zbl w 29 ty 105 i Tryz.underlying29 hi x (some b) 0 0 c (Nat.le_refl _)
 clear hi hi0
 go_enter Tryz.func55, Tryz.ntmps55
 go_wp2
 go_ret
 exact ⟨rfl, rfl⟩
def kp55 : Keep := fun i => ⟨[], [], []⟩
theorem w55 {T : Tab} (a0 : (List Tapi_Coin)) (hne : a0 ≠ []) (x : (List Tapi_Coin)) (hr : ZX a0 = some x) : ∃ kp fl n, Zs tt T G kp fl n Tryz.f55 [.one (.slice .no (List.map ZD a0))] = some (.one (.own 37 (List.map ZD a0)), []) := by
 refine fnE (kp := kp55) (w := true) body55 (by simp) ?_
 unfold c55
 rw [Tryz.ntmps55]
 unfold ZX at hr
 obtain ⟨_, u1, hr⟩ := bs hr
 have u2 := ZE u1
 have n1 : a0.length * 88 ≤ 140737488355328 := by omega
 have n2 : a0.length ≤ 9223372036854775807 := by omega
 have ne : List.map ZD a0 ≠ [] := fun h => hne (by simpa [Zk] using h)
 refine Za rfl (by simp; rfl) ?_
 first
 | (refine Zb ?_; refine Za rfl (by simp [hne, ne]; rfl) ?_)
 | refine Za rfl (by simp [hne, ne]; rfl) ?_
 refine Ze (by simp [bV]) ?_
 refine Zg ?_
 refine Za rfl (by simp [n1, n2]; rfl) ?_
 refine Zi ?_
 simp [Zj]
theorem v55 : ZG Tryz.prog G 55 G55 := by
 refine Zei (e := 37) (t := 105) (N := 0) (rows := fun l : (List Tapi_Coin) => List.map ZD l) Tryz.func55 (by kernel_rfl) (by kernel_rfl) G55 (fun ps r hF => ?_) rfl (fun l hl r hF => ?_) (fun x c w => ?_)
 ·obtain ⟨x, rfl, h⟩ := Zay hF
  obtain ⟨y, hy, rfl⟩ := Option.map_eq_some_iff.1 h
  unfold ZX at hy
  obtain ⟨_, u1, hy⟩ := bs hy
  obtain rfl := Option.some.inj hy
  exact ⟨x, rfl, rfl⟩
 ·refine ZfK (T := Av.tab []) mixed htt (Av.tab_ok trivial) Tryz.func55 body55 (by kernel_rfl) fun ps r' ho hF' => ?_
  split at hF'
  ·rename_i hps
   subst hps
   injection hF' with hF'
   subst hF'
   obtain ⟨x, hx, h⟩ := Zay hF
   obtain rfl := E55i l x hx
   obtain ⟨y, hy, rfl⟩ := Option.map_eq_some_iff.1 h
   have hy' := hy
   unfold ZX at hy'
   obtain ⟨_, u1, hy'⟩ := bs hy'
   obtain rfl := Option.some.inj hy'
   exact w55 l hl _ hy
  ·cases hF'
 ·cases x with
  | none => exact (Zsa c w).mono fun e w' h => ⟨none, h.1, .inl h.2⟩
  | some b => exact (ZqW b c w).mono fun e w' h => ⟨_, h.1, .inr h.2⟩
def kp29 : Keep := fun i => if i = 3 then ⟨[1, 2, 14, 15, 16], [1, 2, 7, 10, 100007], []⟩ else ⟨[], [], []⟩
theorem w29 {T : Tab} (hO : T.own = fun _ => []) (hT54 : T 54 = some G54) (hT55 : T 55 = some G55) (hT56 : T 56 = some G56) (a0 : Tapi_Plan) (x : Tapi_Plan) (hr : YM a0 = some x) : ∃ kp fl n, Zs tt T G kp fl n Tryz.f29 (E29 a0) = some (R29 a0 x) := by
 simp only [E29, R29]
 refine fnE (kp := kp29) (w := true) body29 (by simp) ?_
 unfold c29
 rw [Tryz.ntmps29]
 unfold YM at hr
 refine Za rfl (by simp []; rfl) ?_
 obtain ⟨y20, hy20, hr⟩ := bs hr
 have ehy20 := ZrJ hy20
 simp only [E54, R54, nf, nfs] at ehy20
 obtain ⟨y21, hy21, hr⟩ := bs hr
 have ehy21 := ZrK hy21
 simp only [E55, R55, nf, nfs] at ehy21
 refine ZB rfl (by simp [hO, hT54, ehy20, hT55, ehy21]; first | exact ⟨rfl, rfl⟩ | rfl) (by kernel_rfl) ?_
 refine Zb ?_
 refine Za rfl (by simp []; rfl) ?_
 refine Zh ?_
 refine ZJ (kq := ⟨[1, 2, 14, 15, 16], [1, 2, 7, 10, 100007], []⟩) (H := fun (s : Int × (List Tapi_Coin)) => match s with | (p12, p13) => (⟨(und 1 ++ ([.ptr 1 0 0 0 7, .ptr 2 0 0 0 7] ++ (und 11 ++ ([.one (.ms 10 0 0 (p13.length) 37), .one (.v (.int .i64 (y21.length : Int))), .one (.v (.int .i64 p12))] ++ (und 16)))) : List PV), ([(1, ⟨0, 7, [[.v (.int .u32 y20.1), .ms 7 0 0 (y20.2.1.length) 35, .ms 100007 0 0 (y20.2.2.1.length) 2, .v (.int .u32 y20.2.2.2), .ms 10 0 0 (p13.length) 37, .v (.int .i64 a0.2.2.1), .v (.int .i64 a0.2.2.2)]], false, false⟩), (2, ⟨0, 7, [[.v (.int .u32 0), .slice .nil [], .slice .nil [], .v (.int .u32 0), .slice .nil [], .v (.int .i64 0), .v (.int .i64 0)]], false, false⟩), (7, ⟨0, 35, List.map Zm y20.2.1, false, true⟩), (10, ⟨0, 37, List.map ZD p13, false, true⟩), (100007, ⟨0, 2, List.map Zl y20.2.2.1, false, true⟩)] : Boxes)⟩ : ASt)) (by kernel_rfl) hr (by simp [und, List.replicate, ]) ?_
 rintro ⟨p12, p13⟩ x28r hr28
 simp only [XA] at hr28
 unfold b29_1
 simp only [und, List.replicate, List.cons_append, List.nil_append]
 refine Za rfl (by simp []; rfl) ?_
 by_cases c29 : p12 < (y21.length : Int)
 ·skip
  have c29N := c29
  try simp at c29N
  first | have c29M : (_ = _) = True := eq_true c29N | have c29M := c29N
  rw [if_pos] at hr28
  rotate_left
  ·simp [c29, c29M]
  refine Zd (by simp [bV, c29, c29M]) ?_
  refine Zg ?_
  refine Zh ?_
  obtain ⟨j30, hj30, hr28⟩ := bs hr28
  obtain ⟨j30a, j30b, j30c⟩ := Z4 hj30
  obtain ⟨x31, hx31, hr28⟩ := bs hr28
  have ghx31 := Zr hx31
  refine Za rfl (by simp [j30a, j30b, j30c, hx31, ghx31, c29, c29M]; rfl) ?_
  obtain ⟨y32, hy32, hr28⟩ := bs hr28
  have ehy32 := Zmi hy32
  simp only [E56, R56, nf, nfs] at ehy32
  obtain ⟨j30a, j30b, j30c⟩ := Z4 hj30
  have ghx31 := Zr hx31
  refine Zdb rfl (by simp [hO, hT56, ehy32, j30a, j30b, j30c, hx31, ghx31, c29, c29M]; first | exact ⟨rfl, rfl⟩ | rfl) (by kernel_rfl) ?_
  simp only [pq, reduceCtorEq]
  refine Zu rfl (by simp [c29, c29M]; rfl) ?_
  obtain rfl := Option.some.inj hr28
  simp only [pq, reduceCtorEq]
  simp [und, List.replicate, Nat.add_assoc, c29, c29M]
 ·skip
  have c29N := c29
  try simp at c29N
  first | have c29M : (_ = _) = True := eq_true c29N | have c29M := c29N
  rw [if_neg] at hr28
  rotate_left
  ·simp [c29, c29M]
  refine Ze (by simp [bV, c29, c29M]) ?_
  refine Zq ?_
  obtain ⟨r33, q33, rfl⟩ := ms hr28
  simp only [pq, reduceCtorEq]
  rintro rfl
  try simp only [pq, reduceCtorEq]
  unfold Zd7 at q33
  refine Za rfl (by simp [c29, c29M]; rfl) ?_
  refine Zi ?_
  obtain rfl := Option.some.inj q33
  simp [Zj, c29, c29M, c29N]
def kp9 : Keep := fun i => ⟨[], [], []⟩
theorem w9 {T : Tab} (hO : T.own = fun _ => []) (hT28 : T 28 = some G28) (hT29 : T 29 = some G29) (a0 : Tapi_Plan) (x : Tapi_PartialTx × Int) (hr : Zal a0 = some x) : ∃ kp fl n, Zs tt T G kp fl n Tryz.f9 (E9 a0) = some (R9 a0 x) := by
 simp only [E9, R9]
 refine fnE (kp := kp9) (w := false) body9 (by simp) ?_
 unfold c9
 rw [Tryz.ntmps9]
 unfold Zal at hr
 refine Za rfl (by simp []; rfl) ?_
 refine Zb ?_
 obtain ⟨y3, hy3, hr⟩ := bs hr
 have ehy3 := ZoN hy3
 simp only [E28, R28, nf, nfs] at ehy3
 refine Za rfl (by simp [hO, hT28, ehy3]; rfl) ?_
 by_cases c4 : y3 = true
 ·skip
  rw [if_neg (not_not_intro c4)] at hr
  refine Ze (by simp [bV, c4]) ?_
  refine Zg ?_
  obtain ⟨y5, hy5, hr⟩ := bs hr
  have ehy5 := ZrL hy5
  simp only [E29, R29, nf, nfs] at ehy5
  refine Za rfl (by simp [hO, hT29, ehy5, c4]; rfl) ?_
  refine Zi ?_
  obtain rfl := Option.some.inj hr
  simp [Zj, hO, hT29, ehy5, c4]
 ·skip
  rw [if_pos c4] at hr
  refine Zd (by simp [bV, c4]) ?_
  refine Zb ?_
  refine Za rfl (by simp [c4]; rfl) ?_
  refine Zn ?_
  obtain rfl := Option.some.inj hr
  simp [Zj, c4]
def kp93 : Keep := fun i => ⟨[], [], []⟩
theorem w93 {T : Tab} (a0 : Tapi_OutPoint) (x : Bool) (hr : X6 a0 = some x) : ∃ kp fl n, Zs tt T G kp fl n Tryz.f93 (E93 a0) = some (R93 a0 x) := by
 simp only [E93, R93]
 refine fnE (kp := kp93) (w := false) body93 (by simp) ?_
 unfold c93
 rw [Tryz.ntmps93]
 unfold X6 at hr
 refine Za rfl (by simp []; rfl) ?_
 refine Za rfl (by simp []; rfl) ?_
 refine Zi ?_
 obtain rfl := Option.some.inj hr
 simp [Zj, ]
def kp58 : Keep := fun i => ⟨[], [], []⟩
theorem w58 {T : Tab} (hO : T.own = fun _ => []) (hT93 : T 93 = some G93) (a0 : Tapi_Tx) (x : Bool) (hr : Xi a0 = some x) : ∃ kp fl n, Zs tt T G kp fl n Tryz.f58 (E58 a0) = some (R58 a0 x) := by
 simp only [E58, R58]
 refine fnE (kp := kp58) (w := false) body58 (by simp) ?_
 unfold c58
 rw [Tryz.ntmps58]
 unfold Xi at hr
 refine Za rfl (by simp []; rfl) ?_
 by_cases c4 : (a0.2.1.length : Int) = 1
 ·skip
  have c4N := c4
  try simp at c4N
  rw [if_pos] at hr
  rotate_left
  ·simp [eq_true c4, eq_true c4N]
  obtain ⟨z5, hz5, hr⟩ := bs hr
  obtain ⟨x6, hx6, hz5⟩ := bs hz5
  have hx6c := Zr hx6
  obtain ⟨y7, hy7, hz5⟩ := bs hz5
  have ehy7 := ZoO hy7
  simp only [E93, R93, nf, nfs] at ehy7
  obtain rfl := Option.some.inj hz5
  refine Za rfl (by simp [hx6, hx6c, hO, hT93, ehy7, eq_true c4, eq_true c4N]; rfl) ?_
  refine Zi ?_
  obtain rfl := Option.some.inj hr
  simp [Zj, hx6, hx6c, hO, hT93, ehy7, eq_true c4, eq_true c4N]
 ·skip
  have c4N := c4
  try simp at c4N
  first | have c4M : (_ = _) = True := eq_true c4N | have c4M := c4N
  rw [if_neg] at hr
  rotate_left
  ·simp [c4, c4M]
  obtain ⟨z8, hz8, hr⟩ := bs hr
  obtain rfl := Option.some.inj hz8
  refine Za rfl (by simp [c4, c4M]; rfl) ?_
  refine Zi ?_
  obtain rfl := Option.some.inj hr
  simp [Zj, c4, c4M, c4N]
def kp121 : Keep := fun i => if i = 3 then ⟨[0, 5, 10, 11], [8], []⟩ else ⟨[], [], []⟩
theorem w121 {T : Tab} (a0 : Int) (a1 : Int) (x : (List Int)) (hr : Z5 a0 a1 = some x) : ∃ kp fl n, Zs tt T G kp fl n Tryz.f121 (ZeA (a0, a1)) = some (Zgc (a0, a1) x) := by
 simp only [ZeA, Zgc]
 refine fnE (kp := kp121) (w := true) body121 (by simp) ?_
 unfold c121
 rw [Tryz.ntmps121]
 unfold Z5 at hr
 refine Za rfl (by simp []; rfl) ?_
 obtain ⟨_, u14, hr⟩ := bs hr
 obtain ⟨u14_0, u14_1⟩ := ZE u14
 have mf15 : (a1).toNat ≤ 140737488355328 := by omega
 have mf16 : (a1).toNat ≤ 9223372036854775807 := by omega
 have mf17 : 0 ≤ a1 := by omega
 refine Za rfl (by simp [u14_0, u14_1, mf15, mf16, mf17]; rfl) ?_
 refine Zb ?_
 refine Za rfl (by simp []; rfl) ?_
 refine Zh ?_
 refine ZJ (kq := ⟨[0, 5, 10, 11], [8], []⟩) (H := fun (s : Int × (List Int)) => match s with | (p8, p9) => (⟨([.one (.v (.int .u64 a0))] ++ (und 4 ++ ([.one (.ms 8 0 0 (p9.length) 1)] ++ (und 4 ++ ([.one (.v (.int .i64 ((List.replicate ((a1).toNat) 0).length : Int))), .one (.v (.int .i64 p8))] ++ (und 12))))) : List PV), ([(8, ⟨0, 1, Zk .u8 p9, false, true⟩)] : Boxes)⟩ : ASt)) (by kernel_rfl) hr (by simp [und, List.replicate, ]) ?_
 rintro ⟨p8, p9⟩ x23r hr23
 simp only [ZaZ] at hr23
 unfold b121_1
 simp only [und, List.replicate, List.cons_append, List.nil_append]
 refine Za rfl (by simp []; rfl) ?_
 by_cases c24 : p8 < ((List.replicate ((a1).toNat) 0).length : Int)
 ·skip
  have c24N := c24
  try simp at c24N
  first | have c24M : (_ = _) = True := eq_true c24N | have c24M := c24N
  rw [if_pos] at hr23
  rotate_left
  ·simp [c24, c24M]
  refine Zd (by simp [bV, c24, c24M]) ?_
  refine Zg ?_
  refine Zh ?_
  refine Za rfl (by simp [c24, c24M]; rfl) ?_
  obtain ⟨_, u25, hr23⟩ := bs hr23
  have u25_0 := ZE u25
  obtain ⟨j26, hj26, hr23⟩ := bs hr23
  obtain ⟨j26a, j26b, j26c⟩ := Z4 hj26
  refine Zu rfl (by simp [u25_0, j26a, j26b, j26c, c24, c24M]; rfl) ?_
  simp only [pq, reduceCtorEq]
  refine Zu rfl (by simp [c24, c24M]; rfl) ?_
  obtain rfl := Option.some.inj hr23
  simp only [pq, reduceCtorEq]
  simp [und, List.replicate, Nat.add_assoc, c24, c24M]
 ·skip
  have c24N := c24
  try simp at c24N
  first | have c24M : (_ = _) = True := eq_true c24N | have c24M := c24N
  rw [if_neg] at hr23
  rotate_left
  ·simp [c24, c24M]
  refine Ze (by simp [bV, c24, c24M]) ?_
  refine Zq ?_
  obtain ⟨r27, q27, rfl⟩ := ms hr23
  simp only [pq, reduceCtorEq]
  rintro rfl
  try simp only [pq, reduceCtorEq]
  unfold ZdV at q27
  refine Za rfl (by simp [c24, c24M]; rfl) ?_
  refine Zi ?_
  obtain rfl := Option.some.inj q27
  simp [Zj, c24, c24M, c24N]
def kp112 : Keep := fun i => ⟨[], [], []⟩
theorem w112 {T : Tab} (hO : T.own = fun _ => []) (hT84 : T 84 = some G84) (hT121 : T 121 = some G121) (a0 : (List Int)) (a1 : Int) (x : (List Int)) (hr : Yx a0 a1 = some x) : ∃ kp fl n, Zs tt T G kp fl n Tryz.f112 (Zfw (a0, a1)) = some (Zhy (a0, a1) x) := by
 simp only [Zfw, Zhy]
 refine fnE (kp := kp112) (w := true) body112 (by simp) ?_
 unfold c112
 rw [Tryz.ntmps112]
 unfold Yx at hr
 refine Za rfl (by simp []; rfl) ?_
 obtain ⟨y3, hy3, hr⟩ := bs hr
 have ehy3 := ZfN hy3
 simp only [ZeA, Zgc, nf, nfs] at ehy3
 obtain ⟨y4, hy4, hr⟩ := bs hr
 have ehy4 := Zcq hy4
 simp only [E84, R84, nf, nfs] at ehy4
 refine Za rfl (by simp [hO, hT121, ehy3, hT84, ehy4]; rfl) ?_
 refine Zi ?_
 obtain rfl := Option.some.inj hr
 simp [Zj, hO, hT121, ehy3, hT84, ehy4]
def kp113 : Keep := fun i => ⟨[], [], []⟩
theorem w113 {T : Tab} (hO : T.own = fun _ => []) (hT84 : T 84 = some G84) (hT121 : T 121 = some G121) (a0 : (List Int)) (a1 : Int) (x : (List Int)) (hr : Yw a0 a1 = some x) : ∃ kp fl n, Zs tt T G kp fl n Tryz.f113 (Zfx (a0, a1)) = some (Zhz (a0, a1) x) := by
 simp only [Zfx, Zhz]
 refine fnE (kp := kp113) (w := true) body113 (by simp) ?_
 unfold c113
 rw [Tryz.ntmps113]
 unfold Yw at hr
 refine Za rfl (by simp []; rfl) ?_
 refine Zh ?_
 refine Za rfl (by simp []; rfl) ?_
 by_cases c12 : a1 < 253
 ·skip
  rw [if_pos c12] at hr
  refine Zp (by simp [bV, c12]) ?_
  obtain ⟨y13, hy13, hr⟩ := bs hr
  have ehy13 := ZfN hy13
  simp only [ZeA, Zgc, nf, nfs] at ehy13
  obtain ⟨y14, hy14, hr⟩ := bs hr
  have ehy14 := Zcq hy14
  simp only [E84, R84, nf, nfs] at ehy14
  refine Za rfl (by simp [hO, hT121, ehy13, hT84, ehy14, c12]; rfl) ?_
  refine Zi ?_
  obtain rfl := Option.some.inj hr
  simp [Zj, hO, hT121, ehy13, hT84, ehy14, c12]
 ·skip
  rw [if_neg c12] at hr
  refine Zw (by simp [bV, c12]) ?_
  refine Za rfl (by simp [c12]; rfl) ?_
  by_cases c15 : a1 < 65536
  ·skip
   rw [if_pos c15] at hr
   refine Zp (by simp [bV, c12, c15]) ?_
   obtain ⟨y16, hy16, hr⟩ := bs hr
   have ehy16 := ZfN hy16
   simp only [ZeA, Zgc, nf, nfs] at ehy16
   obtain ⟨y17, hy17, hr⟩ := bs hr
   have ehy17 := Zcq hy17
   simp only [E84, R84, nf, nfs] at ehy17
   obtain ⟨y18, hy18, hr⟩ := bs hr
   have ehy18 := Zcq hy18
   simp only [E84, R84, nf, nfs] at ehy18
   refine Za rfl (by simp [hO, hT121, ehy16, hT84, ehy17, ehy18, c12, c15]; rfl) ?_
   refine Zi ?_
   obtain rfl := Option.some.inj hr
   simp [Zj, hO, hT121, ehy16, hT84, ehy17, ehy18, c12, c15]
  ·skip
   rw [if_neg c15] at hr
   refine Zw (by simp [bV, c12, c15]) ?_
   refine Za rfl (by simp [c12, c15]; rfl) ?_
   by_cases c19 : a1 < 4294967296
   ·skip
    rw [if_pos c19] at hr
    refine Zp (by simp [bV, c12, c15, c19]) ?_
    obtain ⟨y20, hy20, hr⟩ := bs hr
    have ehy20 := ZfN hy20
    simp only [ZeA, Zgc, nf, nfs] at ehy20
    obtain ⟨y21, hy21, hr⟩ := bs hr
    have ehy21 := Zcq hy21
    simp only [E84, R84, nf, nfs] at ehy21
    obtain ⟨y22, hy22, hr⟩ := bs hr
    have ehy22 := Zcq hy22
    simp only [E84, R84, nf, nfs] at ehy22
    refine Za rfl (by simp [hO, hT121, ehy20, hT84, ehy21, ehy22, c12, c15, c19]; rfl) ?_
    refine Zi ?_
    obtain rfl := Option.some.inj hr
    simp [Zj, hO, hT121, ehy20, hT84, ehy21, ehy22, c12, c15, c19]
   ·skip
    rw [if_neg c19] at hr
    refine Zw (by simp [bV, c12, c15, c19]) ?_
    refine ZU ?_
    simp only [pq, reduceCtorEq]
    obtain ⟨y23, hy23, hr⟩ := bs hr
    have ehy23 := ZfN hy23
    simp only [ZeA, Zgc, nf, nfs] at ehy23
    obtain ⟨y24, hy24, hr⟩ := bs hr
    have ehy24 := Zcq hy24
    simp only [E84, R84, nf, nfs] at ehy24
    obtain ⟨y25, hy25, hr⟩ := bs hr
    have ehy25 := Zcq hy25
    simp only [E84, R84, nf, nfs] at ehy25
    refine Za rfl (by simp [hO, hT121, ehy23, hT84, ehy24, ehy25, c12, c15, c19]; rfl) ?_
    refine Zi ?_
    obtain rfl := Option.some.inj hr
    simp [Zj, hO, hT121, ehy23, hT84, ehy24, ehy25, c12, c15, c19]
def kp122 : Keep := fun i => ⟨[], [], []⟩
theorem w122 {T : Tab} (hO : T.own = fun _ => []) (hT84 : T 84 = some G84) (a0 : (List Int)) (a1 : (Arr 32)) (x : (List Int)) (hr : YR a0 a1 = some x) : ∃ kp fl n, Zs tt T G kp fl n Tryz.f122 (ZhA (a0, a1)) = some (Zky (a0, a1) x) := by
 simp only [ZhA, Zky]
 refine fnE (kp := kp122) (w := true) body122 (by simp) ?_
 unfold c122
 rw [Tryz.ntmps122]
 unfold YR at hr
 refine Za rfl (by simp []; rfl) ?_
 obtain ⟨y2, hy2, hr⟩ := bs hr
 have ehy2 := Zcq hy2
 simp only [E84, R84, nf, nfs] at ehy2
 refine Za rfl (by simp [hO, hT84, ehy2]; rfl) ?_
 refine Zi ?_
 obtain rfl := Option.some.inj hr
 simp [Zj, hO, hT84, ehy2]
def kp114 : Keep := fun i => ⟨[], [], []⟩
theorem w114 {T : Tab} (hO : T.own = fun _ => []) (hT112 : T 112 = some G112) (hT122 : T 122 = some G122) (a0 : Tapi_OutPoint) (x : (List Int)) (hr : Zad a0 = some x) : ∃ kp fl n, Zs tt T G kp fl n Tryz.f114 (ZhB a0) = some (Zkz a0 x) := by
 simp only [ZhB, Zkz]
 refine fnE (kp := kp114) (w := true) body114 (by simp) ?_
 unfold c114
 rw [Tryz.ntmps114]
 unfold Zad at hr
 refine Za rfl (by simp []; rfl) ?_
 obtain ⟨y3, hy3, hr⟩ := bs hr
 have ehy3 := ZqM hy3
 simp only [ZhA, Zky, nf, nfs] at ehy3
 obtain ⟨y4, hy4, hr⟩ := bs hr
 have ehy4 := ZiO hy4
 simp only [Zfw, Zhy, nf, nfs] at ehy4
 refine ZB rfl (by simp [hO, hT122, ehy3, hT112, ehy4]; first | exact ⟨rfl, rfl⟩ | rfl) (by kernel_rfl) ?_
 refine Zi ?_
 obtain rfl := Option.some.inj hr
 simp [Zj, hO, hT122, ehy3, hT112, ehy4]
def kp116 : Keep := fun i => ⟨[], [], []⟩
theorem w116 {T : Tab} (hO : T.own = fun _ => []) (hT84 : T 84 = some G84) (hT113 : T 113 = some G113) (a0 : (List Int)) (a1 : (List Int)) (x : (List Int)) (hr : YD a0 a1 = some x) : ∃ kp fl n, Zs tt T G kp fl n Tryz.f116 (ZgA (a0, a1)) = some (ZjB (a0, a1) x) := by
 simp only [ZgA, ZjB]
 refine fnE (kp := kp116) (w := true) body116 (by simp) ?_
 unfold c116
 rw [Tryz.ntmps116]
 unfold YD at hr
 refine Za rfl (by simp []; rfl) ?_
 obtain ⟨y3, hy3, hr⟩ := bs hr
 have ehy3 := ZiP hy3
 simp only [Zfx, Zhz, nf, nfs] at ehy3
 obtain ⟨y4, hy4, hr⟩ := bs hr
 have ehy4 := Zcq hy4
 simp only [E84, R84, nf, nfs] at ehy4
 refine Za rfl (by simp [hO, hT113, ehy3, hT84, ehy4]; rfl) ?_
 refine Zi ?_
 obtain rfl := Option.some.inj hr
 simp [Zj, hO, hT113, ehy3, hT84, ehy4]
def kp123 : Keep := fun i => ⟨[], [], []⟩
theorem w123 {T : Tab} (hO : T.own = fun _ => []) (hT84 : T 84 = some G84) (hT121 : T 121 = some G121) (a0 : (List Int)) (a1 : Int) (x : (List Int)) (hr : Y5 a0 a1 = some x) : ∃ kp fl n, Zs tt T G kp fl n Tryz.f123 (ZhC (a0, a1)) = some (ZkA (a0, a1) x) := by
 simp only [ZhC, ZkA]
 refine fnE (kp := kp123) (w := true) body123 (by simp) ?_
 unfold c123
 rw [Tryz.ntmps123]
 unfold Y5 at hr
 refine Za rfl (by simp []; rfl) ?_
 obtain ⟨y3, hy3, hr⟩ := bs hr
 have ehy3 := ZfN hy3
 simp only [ZeA, Zgc, nf, nfs] at ehy3
 obtain ⟨y4, hy4, hr⟩ := bs hr
 have ehy4 := Zcq hy4
 simp only [E84, R84, nf, nfs] at ehy4
 refine Za rfl (by simp [hO, hT121, ehy3, hT84, ehy4]; rfl) ?_
 refine Zi ?_
 obtain rfl := Option.some.inj hr
 simp [Zj, hO, hT121, ehy3, hT84, ehy4]
def kp115 : Keep := fun i => ⟨[], [], []⟩
theorem w115 {T : Tab} (hO : T.own = fun _ => []) (hT116 : T 116 = some G116) (hT123 : T 123 = some G123) (a0 : Tapi_Output) (x : (List Int)) (hr : Zbn a0 = some x) : ∃ kp fl n, Zs tt T G kp fl n Tryz.f115 (ZhD a0) = some (ZkB a0 x) := by
 simp only [ZhD, ZkB]
 refine fnE (kp := kp115) (w := true) body115 (by simp) ?_
 unfold c115
 rw [Tryz.ntmps115]
 unfold Zbn at hr
 refine Za rfl (by simp []; rfl) ?_
 obtain ⟨y3, hy3, hr⟩ := bs hr
 have ehy3 := ZqO hy3
 simp only [ZhC, ZkA, nf, nfs] at ehy3
 obtain ⟨y4, hy4, hr⟩ := bs hr
 have ehy4 := Zm3 hy4
 simp only [ZgA, ZjB, nf, nfs] at ehy4
 refine ZB rfl (by simp [hO, hT123, ehy3, hT116, ehy4]; first | exact ⟨rfl, rfl⟩ | rfl) (by kernel_rfl) ?_
 refine Zi ?_
 obtain rfl := Option.some.inj hr
 simp [Zj, hO, hT123, ehy3, hT116, ehy4]
end Go.Proofs.YtbjhgolpnjokbaaGreat
