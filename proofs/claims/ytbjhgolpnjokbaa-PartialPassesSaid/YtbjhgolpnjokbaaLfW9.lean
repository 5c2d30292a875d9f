import Derived.Test.YtbjhgolpnjokbaaLfK
import Derived.Test.YtbjhgolpnjokbaaCode
namespace Go.Proofs.Ytbjhgolpnjokbaa
open Go.RowKit
open Go.Av
open Go.Lc
set_option maxRecDepth 100000
set_option linter.unusedSimpArgs false
set_option linter.unusedVariables false
set_option maxHeartbeats 4000000
variable {G : Glob}
def kp21 : Keep := fun i => ⟨[], [], []⟩
theorem w21 {T : Tab} (hO : T.own = fun _ => []) (hT43 : T 43 = some G43_2) (hT44 : T 44 = some G44_3) (hT45 : T 45 = some G45_4) (a0 : Tapi_Plan) (a1 : Tapi_Plan) (x : Bool) (hr : Y3 a0 a1 = some x) : ∃ kp fl n, ZC tt T G kp fl n Try.f21 (E21 (a0, a1)) = some (R21 (a0, a1) x) := by
 simp only [E21, R21]
 refine fnE (kp := kp21) (w := false) body21 (by simp) ?_
 unfold c21
 rw [Try.ntmps21]
 unfold Y3 at hr
 refine Za rfl (by simp []; rfl) ?_
 refine Za rfl (by simp []; rfl) ?_
 refine Za rfl (by simp []; rfl) ?_
 by_cases c7 : a0.1.1 = a1.1.1
 ·skip
  by_cases c8 : a0.1.2.2.2 = a1.1.2.2.2
  ·skip
   by_cases c9 : a0.2.2.1 = a1.2.2.1
   ·skip
    by_cases c10 : a0.2.2.2 = a1.2.2.2
    ·skip
     rw [if_pos] at hr
     rotate_left
     ·simp [eq_true c7, eq_true c8, eq_true c9, eq_true c10]
     obtain ⟨z11, hz11, hr⟩ := bs hr
     obtain ⟨y12, hy12, hz11⟩ := bs hz11
     have ehy12 := Zq3 hy12
     simp only [Zgw, ZjV, nf, nfs] at ehy12
     obtain rfl := Option.some.inj hz11
     by_cases c13 : y12 = true
     ·skip
      rw [if_pos] at hr
      rotate_left
      ·simp [eq_true c7, eq_true c8, eq_true c9, eq_true c10, c13]
      obtain ⟨z14, hz14, hr⟩ := bs hr
      obtain ⟨y15, hy15, hz14⟩ := bs hz14
      have ehy15 := Zq4 hy15
      simp only [Zgx, ZjW, nf, nfs] at ehy15
      obtain rfl := Option.some.inj hz14
      by_cases c16 : y15 = true
      ·skip
       rw [if_pos] at hr
       rotate_left
       ·simp [eq_true c7, eq_true c8, eq_true c9, eq_true c10, c13, c16]
       obtain ⟨z17, hz17, hr⟩ := bs hr
       obtain ⟨y18, hy18, hz17⟩ := bs hz17
       have ehy18 := Zq5 hy18
       simp only [Zgy, ZjX, nf, nfs] at ehy18
       obtain rfl := Option.some.inj hz17
       refine Za rfl (by simp [hO, hT43, ehy12, hT44, ehy15, hT45, ehy18, eq_true c7, eq_true c8, eq_true c9, eq_true c10, c13, c16]; rfl) ?_
       refine Zh ?_
       obtain rfl := Option.some.inj hr
       simp [Zi, hO, hT43, ehy12, hT44, ehy15, hT45, ehy18, eq_true c7, eq_true c8, eq_true c9, eq_true c10, c13, c16]
      ·skip
       rw [if_neg] at hr
       rotate_left
       ·simp [eq_true c7, eq_true c8, eq_true c9, eq_true c10, c13, c16]
       obtain ⟨z19, hz19, hr⟩ := bs hr
       obtain rfl := Option.some.inj hz19
       refine Za rfl (by simp [hO, hT43, ehy12, hT44, ehy15, eq_true c7, eq_true c8, eq_true c9, eq_true c10, c13, c16]; rfl) ?_
       refine Zh ?_
       obtain rfl := Option.some.inj hr
       simp [Zi, hO, hT43, ehy12, hT44, ehy15, eq_true c7, eq_true c8, eq_true c9, eq_true c10, c13, c16]
     ·skip
      rw [if_neg] at hr
      rotate_left
      ·simp [eq_true c7, eq_true c8, eq_true c9, eq_true c10, c13]
      obtain ⟨z20, hz20, hr⟩ := bs hr
      obtain rfl := Option.some.inj hz20
      rw [if_neg] at hr
      rotate_left
      ·simp [eq_true c7, eq_true c8, eq_true c9, eq_true c10, c13]
      obtain ⟨z21, hz21, hr⟩ := bs hr
      obtain rfl := Option.some.inj hz21
      refine Za rfl (by simp [hO, hT43, ehy12, eq_true c7, eq_true c8, eq_true c9, eq_true c10, c13]; rfl) ?_
      refine Zh ?_
      obtain rfl := Option.some.inj hr
      simp [Zi, hO, hT43, ehy12, eq_true c7, eq_true c8, eq_true c9, eq_true c10, c13]
    ·skip
     rw [if_neg] at hr
     rotate_left
     ·simp [eq_true c7, eq_true c8, eq_true c9, c10]
     obtain ⟨z22, hz22, hr⟩ := bs hr
     obtain rfl := Option.some.inj hz22
     rw [if_neg] at hr
     rotate_left
     ·simp [eq_true c7, eq_true c8, eq_true c9, c10]
     obtain ⟨z23, hz23, hr⟩ := bs hr
     obtain rfl := Option.some.inj hz23
     rw [if_neg] at hr
     rotate_left
     ·simp [eq_true c7, eq_true c8, eq_true c9, c10]
     obtain ⟨z24, hz24, hr⟩ := bs hr
     obtain rfl := Option.some.inj hz24
     refine Za rfl (by simp [eq_true c7, eq_true c8, eq_true c9, c10]; rfl) ?_
     refine Zh ?_
     obtain rfl := Option.some.inj hr
     simp [Zi, eq_true c7, eq_true c8, eq_true c9, c10]
   ·skip
    rw [if_neg] at hr
    rotate_left
    ·simp [eq_true c7, eq_true c8, c9]
    obtain ⟨z25, hz25, hr⟩ := bs hr
    obtain rfl := Option.some.inj hz25
    rw [if_neg] at hr
    rotate_left
    ·simp [eq_true c7, eq_true c8, c9]
    obtain ⟨z26, hz26, hr⟩ := bs hr
    obtain rfl := Option.some.inj hz26
    rw [if_neg] at hr
    rotate_left
    ·simp [eq_true c7, eq_true c8, c9]
    obtain ⟨z27, hz27, hr⟩ := bs hr
    obtain rfl := Option.some.inj hz27
    refine Za rfl (by simp [eq_true c7, eq_true c8, c9]; rfl) ?_
    refine Zh ?_
    obtain rfl := Option.some.inj hr
    simp [Zi, eq_true c7, eq_true c8, c9]
  ·skip
   rw [if_neg] at hr
   rotate_left
   ·simp [eq_true c7, c8]
   obtain ⟨z28, hz28, hr⟩ := bs hr
   obtain rfl := Option.some.inj hz28
   rw [if_neg] at hr
   rotate_left
   ·simp [eq_true c7, c8]
   obtain ⟨z29, hz29, hr⟩ := bs hr
   obtain rfl := Option.some.inj hz29
   rw [if_neg] at hr
   rotate_left
   ·simp [eq_true c7, c8]
   obtain ⟨z30, hz30, hr⟩ := bs hr
   obtain rfl := Option.some.inj hz30
   refine Za rfl (by simp [eq_true c7, c8]; rfl) ?_
   refine Zh ?_
   obtain rfl := Option.some.inj hr
   simp [Zi, eq_true c7, c8]
 ·skip
  rw [if_neg] at hr
  rotate_left
  ·simp [c7]
  obtain ⟨z31, hz31, hr⟩ := bs hr
  obtain rfl := Option.some.inj hz31
  rw [if_neg] at hr
  rotate_left
  ·simp [c7]
  obtain ⟨z32, hz32, hr⟩ := bs hr
  obtain rfl := Option.some.inj hz32
  rw [if_neg] at hr
  rotate_left
  ·simp [c7]
  obtain ⟨z33, hz33, hr⟩ := bs hr
  obtain rfl := Option.some.inj hz33
  refine Za rfl (by simp [c7]; rfl) ?_
  refine Zh ?_
  obtain rfl := Option.some.inj hr
  simp [Zi, c7]
theorem Ztc (c : Nat) (w : World) : Calls Try.prog 51 #[.slice none 0 c] w fun e w' => e = .returned (.slice none 0 0) ∧ w' = w := by
 have h1 : ∀ w, (binOp .eql 45 (.slice none 0 c) (.slice none 0 0)).run Try.prog w = .ok (.bool true) w := fun w => by
  have h : ∀ d : Nat, (Op.equalIn (d + 1) 45 (.slice none 0 c) (.slice none 0 0)).run Try.prog w = .ok true w := fun d => by
   simp [Op.equalIn, run_underlying Try.underlying45]
  have h' : (Op.equal 45 (.slice none 0 c) (.slice none 0 0)).run Try.prog w = .ok true w := h 9999
  simp [binOp, h']
 go_enter Try.func51, Try.ntmps51
 go_wp2
 go_ret
 exact ⟨rfl, rfl⟩
theorem ZrX (b : Addr) (c : Nat) (w : World) : Calls Try.prog 51 #[.slice (some b) 0 c] w fun e w' => e = .returned (.slice (some ⟨w.heap.size, 0, none⟩) 0 0) ∧ w' = w.alloc (.cells #[] 5) := by
 have h1 : ∀ w, (binOp .eql 45 (.slice (some b) 0 c) (.slice none 0 0)).run Try.prog w = .ok (.bool false) w := fun w => by
  have h : (Op.equal 45 (.slice (some b) 0 c) (.slice none 0 0)).run Try.prog w = .ok false w := Zdl 9999 Try.underlying45
  simp [binOp, h]
 have h2 : ∀ w, (Instr.buildSlice 45 0 #[]).run Try.prog w = .ok (.slice (some ⟨w.heap.size, 0, none⟩) 0 0) (w.alloc (.cells #[] 5)) := fun w => by kernel_rfl
 have hi0 : (Try.prog.info? 5).isSome = true := by kernel_rfl
 obtain ⟨i, hi⟩ := Option.isSome_iff_exists.1 hi0
 have h3 : ∀ (w : World) (x : Option Addr) ty, (Builtin.append_ #[45, 45] ty #[.slice x 0 0, .slice (some b) 0 c]).run Try.prog w = .ok (.slice x 0 0) w := fun w x ty => Zbt w 45 ty 5 i Try.underlying45 hi x (some b) 0 0 c (Nat.le_refl _)
 clear hi hi0
 go_enter Try.func51, Try.ntmps51
 go_wp2
 go_ret
 exact ⟨rfl, rfl⟩
def kp51 : Keep := fun i => ⟨[], [], []⟩
theorem w51 {T : Tab} (a0 : (List Int)) (hne : a0 ≠ []) (x : (List Int)) (hr : Xi a0 = some x) : ∃ kp fl n, ZC tt T G kp fl n Try.f51 [.one (.slice .no (Zk .u8 a0))] = some (.one (.own 1 (Zk .u8 a0)), []) := by
 refine fnE (kp := kp51) (w := true) body51 (by simp) ?_
 unfold c51
 rw [Try.ntmps51]
 unfold Xi at hr
 obtain ⟨_, u1, hr⟩ := bs hr
 have u2 := ZG u1
 have n1 : a0.length ≤ 140737488355328 := by omega
 have n2 : a0.length ≤ 9223372036854775807 := by omega
 have ne : Zk .u8 a0 ≠ [] := fun h => hne (by simpa [Zk] using h)
 refine Za rfl (by simp; rfl) ?_
 first
 | (refine Zd ?_; refine Za rfl (by simp [hne, ne]; rfl) ?_)
 | refine Za rfl (by simp [hne, ne]; rfl) ?_
 refine Zf (by simp [bV]) ?_
 refine Zg ?_
 refine Za rfl (by simp [n1, n2]; rfl) ?_
 refine Zh ?_
 simp [Zi]
theorem v51 : ZN Try.prog G 51 G51 := by
 refine ZeE (e := 1) (t := 5) (N := 0) (rows := fun l : (List Int) => Zk .u8 l) Try.func51 (by kernel_rfl) (by kernel_rfl) G51 (fun ps r hF => ?_) rfl (fun l hl r hF => ?_) (fun x c w => ?_)
 ·obtain ⟨x, rfl, h⟩ := Za3 hF
  obtain ⟨y, hy, rfl⟩ := Option.map_eq_some_iff.1 h
  unfold Xi at hy
  obtain ⟨_, u1, hy⟩ := bs hy
  obtain rfl := Option.some.inj hy
  exact ⟨x, rfl, rfl⟩
 ·refine ZgB (T := Av.tab []) mixed htt (Av.tab_ok trivial) Try.func51 body51 (by kernel_rfl) fun ps r' ho hF' => ?_
  split at hF'
  ·rename_i hps
   subst hps
   injection hF' with hF'
   subst hF'
   obtain ⟨x, hx, h⟩ := Za3 hF
   obtain rfl := E51i l x hx
   obtain ⟨y, hy, rfl⟩ := Option.map_eq_some_iff.1 h
   have hy' := hy
   unfold Xi at hy'
   obtain ⟨_, u1, hy'⟩ := bs hy'
   obtain rfl := Option.some.inj hy'
   exact w51 l hl _ hy
  ·cases hF'
 ·cases x with
  | none => exact (Ztc c w).mono fun e w' h => ⟨none, h.1, .inl h.2⟩
  | some b => exact (ZrX b c w).mono fun e w' h => ⟨_, h.1, .inr h.2⟩
theorem Ztd (c : Nat) (w : World) : Calls Try.prog 67 #[.slice none 0 c] w fun e w' => e = .returned (.slice none 0 0) ∧ w' = w := by
 have h1 : ∀ w, (binOp .eql 25 (.slice none 0 c) (.slice none 0 0)).run Try.prog w = .ok (.bool true) w := fun w => by
  have h : ∀ d : Nat, (Op.equalIn (d + 1) 25 (.slice none 0 c) (.slice none 0 0)).run Try.prog w = .ok true w := fun d => by
   simp [Op.equalIn, run_underlying Try.underlying25]
  have h' : (Op.equal 25 (.slice none 0 c) (.slice none 0 0)).run Try.prog w = .ok true w := h 9999
  simp [binOp, h']
 go_enter Try.func67, Try.ntmps67
 go_wp2
 go_ret
 exact ⟨rfl, rfl⟩
theorem ZrY (b : Addr) (c : Nat) (w : World) : Calls Try.prog 67 #[.slice (some b) 0 c] w fun e w' => e = .returned (.slice (some ⟨w.heap.size, 0, none⟩) 0 0) ∧ w' = w.alloc (.cells #[] 96) := by
 have h1 : ∀ w, (binOp .eql 25 (.slice (some b) 0 c) (.slice none 0 0)).run Try.prog w = .ok (.bool false) w := fun w => by
  have h : (Op.equal 25 (.slice (some b) 0 c) (.slice none 0 0)).run Try.prog w = .ok false w := Zdl 9999 Try.underlying25
  simp [binOp, h]
 have h2 : ∀ w, (Instr.buildSlice 25 0 #[]).run Try.prog w = .ok (.slice (some ⟨w.heap.size, 0, none⟩) 0 0) (w.alloc (.cells #[] 96)) := fun w => by kernel_rfl
 have hi0 : (Try.prog.info? 96).isSome = true := by kernel_rfl
 obtain ⟨i, hi⟩ := Option.isSome_iff_exists.1 hi0
 have h3 : ∀ (w : World) (x : Option Addr) ty, (Builtin.append_ #[25, 25] ty #[.slice x 0 0, .slice (some b) 0 c]).run Try.prog w = .ok (.slice x 0 0) w := fun w x ty => Zbt w 25 ty 96 i Try.underlying25 hi x (some b) 0 0 c (Nat.le_refl _)
 clear hi hi0
 go_enter Try.func67, Try.ntmps67
 go_wp2
 go_ret
 exact ⟨rfl, rfl⟩
def kp67 : Keep := fun i => ⟨[], [], []⟩
theorem w67 {T : Tab} (a0 : (List Tapi_Input)) (hne : a0 ≠ []) (x : (List Tapi_Input)) (hr : Z3 a0 = some x) : ∃ kp fl n, ZC tt T G kp fl n Try.f67 [.one (.slice .no (List.map Zo a0))] = some (.one (.own 35 (List.map Zo a0)), []) := by
 refine fnE (kp := kp67) (w := true) body67 (by simp) ?_
 unfold c67
 rw [Try.ntmps67]
 unfold Z3 at hr
 obtain ⟨_, u1, hr⟩ := bs hr
 have u2 := ZG u1
 have n1 : a0.length * 64 ≤ 140737488355328 := by omega
 have n2 : a0.length ≤ 9223372036854775807 := by omega
 have ne : List.map Zo a0 ≠ [] := fun h => hne (by simpa [Zk] using h)
 refine Za rfl (by simp; rfl) ?_
 first
 | (refine Zd ?_; refine Za rfl (by simp [hne, ne]; rfl) ?_)
 | refine Za rfl (by simp [hne, ne]; rfl) ?_
 refine Zf (by simp [bV]) ?_
 refine Zg ?_
 refine Za rfl (by simp [n1, n2]; rfl) ?_
 refine Zh ?_
 simp [Zi]
theorem v67 : ZN Try.prog G 67 G67 := by
 refine ZeE (e := 35) (t := 96) (N := 0) (rows := fun l : (List Tapi_Input) => List.map Zo l) Try.func67 (by kernel_rfl) (by kernel_rfl) G67 (fun ps r hF => ?_) rfl (fun l hl r hF => ?_) (fun x c w => ?_)
 ·obtain ⟨x, rfl, h⟩ := Za3 hF
  obtain ⟨y, hy, rfl⟩ := Option.map_eq_some_iff.1 h
  unfold Z3 at hy
  obtain ⟨_, u1, hy⟩ := bs hy
  obtain rfl := Option.some.inj hy
  exact ⟨x, rfl, rfl⟩
 ·refine ZgB (T := Av.tab []) mixed htt (Av.tab_ok trivial) Try.func67 body67 (by kernel_rfl) fun ps r' ho hF' => ?_
  split at hF'
  ·rename_i hps
   subst hps
   injection hF' with hF'
   subst hF'
   obtain ⟨x, hx, h⟩ := Za3 hF
   obtain rfl := E67i l x hx
   obtain ⟨y, hy, rfl⟩ := Option.map_eq_some_iff.1 h
   have hy' := hy
   unfold Z3 at hy'
   obtain ⟨_, u1, hy'⟩ := bs hy'
   obtain rfl := Option.some.inj hy'
   exact w67 l hl _ hy
  ·cases hF'
 ·cases x with
  | none => exact (Ztd c w).mono fun e w' h => ⟨none, h.1, .inl h.2⟩
  | some b => exact (ZrY b c w).mono fun e w' h => ⟨_, h.1, .inr h.2⟩
theorem Zte (c : Nat) (w : World) : Calls Try.prog 68 #[.slice none 0 c] w fun e w' => e = .returned (.slice none 0 0) ∧ w' = w := by
 have h1 : ∀ w, (binOp .eql 26 (.slice none 0 c) (.slice none 0 0)).run Try.prog w = .ok (.bool true) w := fun w => by
  have h : ∀ d : Nat, (Op.equalIn (d + 1) 26 (.slice none 0 c) (.slice none 0 0)).run Try.prog w = .ok true w := fun d => by
   simp [Op.equalIn, run_underlying Try.underlying26]
  have h' : (Op.equal 26 (.slice none 0 c) (.slice none 0 0)).run Try.prog w = .ok true w := h 9999
  simp [binOp, h']
 go_enter Try.func68, Try.ntmps68
 go_wp2
 go_ret
 exact ⟨rfl, rfl⟩
theorem ZrZ (b : Addr) (c : Nat) (w : World) : Calls Try.prog 68 #[.slice (some b) 0 c] w fun e w' => e = .returned (.slice (some ⟨w.heap.size, 0, none⟩) 0 0) ∧ w' = w.alloc (.cells #[] 91) := by
 have h1 : ∀ w, (binOp .eql 26 (.slice (some b) 0 c) (.slice none 0 0)).run Try.prog w = .ok (.bool false) w := fun w => by
  have h : (Op.equal 26 (.slice (some b) 0 c) (.slice none 0 0)).run Try.prog w = .ok false w := Zdl 9999 Try.underlying26
  simp [binOp, h]
 have h2 : ∀ w, (Instr.buildSlice 26 0 #[]).run Try.prog w = .ok (.slice (some ⟨w.heap.size, 0, none⟩) 0 0) (w.alloc (.cells #[] 91)) := fun w => by kernel_rfl
 have hi0 : (Try.prog.info? 91).isSome = true := by kernel_rfl
 obtain ⟨i, hi⟩ := Option.isSome_iff_exists.1 hi0
 have h3 : ∀ (w : World) (x : Option Addr) ty, (Builtin.append_ #[26, 26] ty #[.slice x 0 0, .slice (some b) 0 c]).run Try.prog w = .ok (.slice x 0 0) w := fun w x ty => Zbt w 26 ty 91 i Try.underlying26 hi x (some b) 0 0 c (Nat.le_refl _)
 clear hi hi0
 go_enter Try.func68, Try.ntmps68
 go_wp2
 go_ret
 exact ⟨rfl, rfl⟩
def kp68 : Keep := fun i => ⟨[], [], []⟩
theorem w68 {T : Tab} (a0 : (List Tapi_Output)) (hne : a0 ≠ []) (x : (List Tapi_Output)) (hr : Z1 a0 = some x) : ∃ kp fl n, ZC tt T G kp fl n Try.f68 [.one (.slice .no (List.map Zm a0))] = some (.one (.own 2 (List.map Zm a0)), []) := by
 refine fnE (kp := kp68) (w := true) body68 (by simp) ?_
 unfold c68
 rw [Try.ntmps68]
 unfold Z1 at hr
 obtain ⟨_, u1, hr⟩ := bs hr
 have u2 := ZG u1
 have n1 : a0.length * 32 ≤ 140737488355328 := by omega
 have n2 : a0.length ≤ 9223372036854775807 := by omega
 have ne : List.map Zm a0 ≠ [] := fun h => hne (by simpa [Zk] using h)
 refine Za rfl (by simp; rfl) ?_
 first
 | (refine Zd ?_; refine Za rfl (by simp [hne, ne]; rfl) ?_)
 | refine Za rfl (by simp [hne, ne]; rfl) ?_
 refine Zf (by simp [bV]) ?_
 refine Zg ?_
 refine Za rfl (by simp [n1, n2]; rfl) ?_
 refine Zh ?_
 simp [Zi]
theorem v68 : ZN Try.prog G 68 G68 := by
 refine ZeE (e := 2) (t := 91) (N := 0) (rows := fun l : (List Tapi_Output) => List.map Zm l) Try.func68 (by kernel_rfl) (by kernel_rfl) G68 (fun ps r hF => ?_) rfl (fun l hl r hF => ?_) (fun x c w => ?_)
 ·obtain ⟨x, rfl, h⟩ := Za3 hF
  obtain ⟨y, hy, rfl⟩ := Option.map_eq_some_iff.1 h
  unfold Z1 at hy
  obtain ⟨_, u1, hy⟩ := bs hy
  obtain rfl := Option.some.inj hy
  exact ⟨x, rfl, rfl⟩
 ·refine ZgB (T := Av.tab []) mixed htt (Av.tab_ok trivial) Try.func68 body68 (by kernel_rfl) fun ps r' ho hF' => ?_
  split at hF'
  ·rename_i hps
   subst hps
   injection hF' with hF'
   subst hF'
   obtain ⟨x, hx, h⟩ := Za3 hF
   obtain rfl := E68i l x hx
   obtain ⟨y, hy, rfl⟩ := Option.map_eq_some_iff.1 h
   have hy' := hy
   unfold Z1 at hy'
   obtain ⟨_, u1, hy'⟩ := bs hy'
   obtain rfl := Option.some.inj hy'
   exact w68 l hl _ hy
  ·cases hF'
 ·cases x with
  | none => exact (Zte c w).mono fun e w' h => ⟨none, h.1, .inl h.2⟩
  | some b => exact (ZrZ b c w).mono fun e w' h => ⟨_, h.1, .inr h.2⟩
theorem Ztf (c : Nat) (w : World) : Calls Try.prog 80 #[.slice none 0 c] w fun e w' => e = .returned (.slice none 0 0) ∧ w' = w := by
 have h1 : ∀ w, (binOp .eql 59 (.slice none 0 c) (.slice none 0 0)).run Try.prog w = .ok (.bool true) w := fun w => by
  have h : ∀ d : Nat, (Op.equalIn (d + 1) 59 (.slice none 0 c) (.slice none 0 0)).run Try.prog w = .ok true w := fun d => by
   simp [Op.equalIn, run_underlying Try.underlying59]
  have h' : (Op.equal 59 (.slice none 0 c) (.slice none 0 0)).run Try.prog w = .ok true w := h 9999
  simp [binOp, h']
 go_enter Try.func80, Try.ntmps80
 go_wp2
 go_ret
 exact ⟨rfl, rfl⟩
theorem Zr0 (b : Addr) (c : Nat) (w : World) : Calls Try.prog 80 #[.slice (some b) 0 c] w fun e w' => e = .returned (.slice (some ⟨w.heap.size, 0, none⟩) 0 0) ∧ w' = w.alloc (.cells #[] 45) := by
 have h1 : ∀ w, (binOp .eql 59 (.slice (some b) 0 c) (.slice none 0 0)).run Try.prog w = .ok (.bool false) w := fun w => by
  have h : (Op.equal 59 (.slice (some b) 0 c) (.slice none 0 0)).run Try.prog w = .ok false w := Zdl 9999 Try.underlying59
  simp [binOp, h]
 have h2 : ∀ w, (Instr.buildSlice 59 0 #[]).run Try.prog w = .ok (.slice (some ⟨w.heap.size, 0, none⟩) 0 0) (w.alloc (.cells #[] 45)) := fun w => by kernel_rfl
 have hi0 : (Try.prog.info? 45).isSome = true := by kernel_rfl
 obtain ⟨i, hi⟩ := Option.isSome_iff_exists.1 hi0
 have h3 : ∀ (w : World) (x : Option Addr) ty, (Builtin.append_ #[59, 59] ty #[.slice x 0 0, .slice (some b) 0 c]).run Try.prog w = .ok (.slice x 0 0) w := fun w x ty => Zbt w 59 ty 45 i Try.underlying59 hi x (some b) 0 0 c (Nat.le_refl _)
 clear hi hi0
 go_enter Try.func80, Try.ntmps80
 go_wp2
 go_ret
 exact ⟨rfl, rfl⟩
def kp80 : Keep := fun i => ⟨[], [], []⟩
theorem w80 {T : Tab} (a0 : (List (List Int))) (hne : a0 ≠ []) (x : (List (List Int))) (hr : Yj a0 = some x) : ∃ kp fl n, ZC tt T G kp fl n Try.f80 [.one (.slice .no (List.map Yf a0))] = some (.one (.own 1 (List.map Yf a0)), []) := by
 refine fnE (kp := kp80) (w := true) body80 (by simp) ?_
 unfold c80
 rw [Try.ntmps80]
 unfold Yj at hr
 obtain ⟨_, u1, hr⟩ := bs hr
 have u2 := ZG u1
 have n1 : a0.length * 24 ≤ 140737488355328 := by omega
 have n2 : a0.length ≤ 9223372036854775807 := by omega
 have ne : List.map Yf a0 ≠ [] := fun h => hne (by simpa [Zk] using h)
 refine Za rfl (by simp; rfl) ?_
 first
 | (refine Zd ?_; refine Za rfl (by simp [hne, ne]; rfl) ?_)
 | refine Za rfl (by simp [hne, ne]; rfl) ?_
 refine Zf (by simp [bV]) ?_
 refine Zg ?_
 refine Za rfl (by simp [n1, n2]; rfl) ?_
 refine Zh ?_
 simp [Zi]
theorem v80 : ZN Try.prog G 80 G80 := by
 refine ZeE (e := 1) (t := 45) (N := 0) (rows := fun l : (List (List Int)) => List.map Yf l) Try.func80 (by kernel_rfl) (by kernel_rfl) G80 (fun ps r hF => ?_) rfl (fun l hl r hF => ?_) (fun x c w => ?_)
 ·obtain ⟨x, rfl, h⟩ := Za3 hF
  obtain ⟨y, hy, rfl⟩ := Option.map_eq_some_iff.1 h
  unfold Yj at hy
  obtain ⟨_, u1, hy⟩ := bs hy
  obtain rfl := Option.some.inj hy
  exact ⟨x, rfl, rfl⟩
 ·refine ZgB (T := Av.tab []) mixed htt (Av.tab_ok trivial) Try.func80 body80 (by kernel_rfl) fun ps r' ho hF' => ?_
  split at hF'
  ·rename_i hps
   subst hps
   injection hF' with hF'
   subst hF'
   obtain ⟨x, hx, h⟩ := Za3 hF
   obtain rfl := E80i l x hx
   obtain ⟨y, hy, rfl⟩ := Option.map_eq_some_iff.1 h
   have hy' := hy
   unfold Yj at hy'
   obtain ⟨_, u1, hy'⟩ := bs hy'
   obtain rfl := Option.some.inj hy'
   exact w80 l hl _ hy
  ·cases hF'
 ·cases x with
  | none => exact (Ztf c w).mono fun e w' h => ⟨none, h.1, .inl h.2⟩
  | some b => exact (Zr0 b c w).mono fun e w' h => ⟨_, h.1, .inr h.2⟩
def kp69 : Keep := fun i => if i = 3 then ⟨[0, 7, 8, 9], [6], []⟩ else ⟨[], [], []⟩
theorem w69 {T : Tab} (hO : T.own = fun _ => []) (hT51 : T 51 = some G51) (hT80 : T 80 = some G80) (a0 : (List (List Int))) (x : (List (List Int))) (hr : YP a0 = some x) : ∃ kp fl n, ZC tt T G kp fl n Try.f69 (E69 a0) = some (R69 a0 x) := by
 simp only [E69, R69]
 refine fnE (kp := kp69) (w := true) body69 (by simp) ?_
 unfold c69
 rw [Try.ntmps69]
 unfold YP at hr
 refine Za rfl (by simp []; rfl) ?_
 obtain ⟨y19, hy19, hr⟩ := bs hr
 have ehy19 := Zs4 hy19
 simp only [E80, R80, nf, nfs] at ehy19
 refine Za rfl (by simp [hO, hT80, ehy19]; rfl) ?_
 refine Zd ?_
 refine Za rfl (by simp []; rfl) ?_
 refine Zj ?_
 refine Z2 (kq := ⟨[0, 7, 8, 9], [6], []⟩) (H := fun (s : Int × (List (List Int))) => match s with | (p11, p12) => (⟨([.one (.ms 6 0 0 (p12.length) 1)] ++ (und 6 ++ ([.one (.ms 6 0 0 (p12.length) 1), .one (.v (.int .i64 (y19.length : Int))), .one (.v (.int .i64 p11))] ++ (und 11))) : List PV), ([(6, ⟨0, 1, List.map Yf p12, false, true⟩)] : Boxes)⟩ : ASt)) (by kernel_rfl) hr (by simp [und, List.replicate, ]) ?_
 rintro ⟨p11, p12⟩ x26r hr26
 simp only [ZbP] at hr26
 unfold b69_1
 simp only [und, List.replicate, List.cons_append, List.nil_append]
 refine Za rfl (by simp []; rfl) ?_
 by_cases c27 : p11 < (y19.length : Int)
 ·skip
  have c27N := c27
  try simp at c27N
  first | have c27M : (_ = _) = True := eq_true c27N | have c27M := c27N
  rw [if_pos] at hr26
  rotate_left
  ·simp [c27, c27M]
  refine Ze (by simp [bV, c27, c27M]) ?_
  refine Zg ?_
  refine Zj ?_
  obtain ⟨j28, hj28, hr26⟩ := bs hr26
  obtain ⟨j28a, j28b, j28c⟩ := YM hj28
  obtain ⟨x29, hx29, hr26⟩ := bs hr26
  have ghx29 := Zz hx29
  refine Za rfl (by simp [j28a, j28b, j28c, hx29, ghx29, c27, c27M]; rfl) ?_
  obtain ⟨y30, hy30, hr26⟩ := bs hr26
  have ehy30 := Znu hy30
  simp only [E51, R51, nf, nfs] at ehy30
  obtain ⟨j28a, j28b, j28c⟩ := YM hj28
  refine ZM rfl (by simp [hO, hT51, ehy30, j28a, j28b, j28c, c27, c27M]; rfl) ?_
  simp only [pq, reduceCtorEq]
  refine ZM rfl (by simp [c27, c27M]; rfl) ?_
  obtain rfl := Option.some.inj hr26
  simp only [pq, reduceCtorEq]
  simp [und, List.replicate, Nat.add_assoc, c27, c27M]
 ·skip
  have c27N := c27
  try simp at c27N
  first | have c27M : (_ = _) = True := eq_true c27N | have c27M := c27N
  rw [if_neg] at hr26
  rotate_left
  ·simp [c27, c27M]
  refine Zf (by simp [bV, c27, c27M]) ?_
  refine ZD ?_
  obtain ⟨r31, q31, rfl⟩ := ms hr26
  simp only [pq, reduceCtorEq]
  rintro rfl
  try simp only [pq, reduceCtorEq]
  unfold ZdJ at q31
  refine Za rfl (by simp [c27, c27M]; rfl) ?_
  refine Zh ?_
  obtain rfl := Option.some.inj q31
  simp [Zi, c27, c27M, c27N]
def kp49 : Keep := fun i => if i = 3 then ⟨[1, 2, 16, 17, 18], [1, 2, 9, 12], []⟩ else if i = 8 then ⟨[1, 2, 33, 34, 35], [1, 2, 9, 12], []⟩ else ⟨[], [], []⟩
theorem w49 {T : Tab} (hO : T.own = fun _ => []) (hT51 : T 51 = some G51) (hT67 : T 67 = some G67) (hT68 : T 68 = some G68) (hT69 : T 69 = some G69) (a0 : Tapi_Tx) (x : Tapi_Tx) (hr : Xj a0 = some x) : ∃ kp fl n, ZC tt T G kp fl n Try.f49 (E49 a0) = some (R49 a0 x) := by
 simp only [E49, R49]
 refine fnE (kp := kp49) (w := true) body49 (by simp) ?_
 unfold c49
 rw [Try.ntmps49]
 unfold Xj at hr
 refine Za rfl (by simp []; rfl) ?_
 obtain ⟨y37, hy37, hr⟩ := bs hr
 have ehy37 := Zs2 hy37
 simp only [E67, R67, nf, nfs] at ehy37
 obtain ⟨y38, hy38, hr⟩ := bs hr
 have ehy38 := Zs3 hy38
 simp only [E68, R68, nf, nfs] at ehy38
 refine ZR rfl (by simp [hO, hT67, ehy37, hT68, ehy38]; first | exact ⟨rfl, rfl⟩ | rfl) (by kernel_rfl) ?_
 refine Zd ?_
 refine Za rfl (by simp []; rfl) ?_
 refine Zj ?_
 refine Z2 (kq := ⟨[1, 2, 16, 17, 18], [1, 2, 9, 12], []⟩) (H := fun (s : Int × (List Tapi_Input)) => match s with | (p12, p13) => (⟨(und 1 ++ ([.ptr 1 0 0 0 4, .ptr 2 0 0 0 4] ++ (und 13 ++ ([.one (.ms 9 0 0 (p13.length) 35), .one (.v (.int .i64 (y37.length : Int))), .one (.v (.int .i64 p12))] ++ (und 31)))) : List PV), ([(1, ⟨0, 4, [[.v (.int .u32 a0.1), .ms 9 0 0 (p13.length) 35, .ms 12 0 0 (y38.length) 2, .v (.int .u32 a0.2.2.2)]], false, false⟩), (2, ⟨0, 4, [[.v (.int .u32 0), .slice .nil [], .slice .nil [], .v (.int .u32 0)]], false, false⟩), (9, ⟨0, 35, List.map Zo p13, false, true⟩), (12, ⟨0, 2, List.map Zm y38, false, true⟩)] : Boxes)⟩ : ASt)) (by kernel_rfl) hr (by simp [und, List.replicate, ]) ?_
 rintro ⟨p12, p13⟩ x45r hr45
 simp only [Zad] at hr45
 unfold b49_1
 simp only [und, List.replicate, List.cons_append, List.nil_append]
 refine Za rfl (by simp []; rfl) ?_
 by_cases c46 : p12 < (y37.length : Int)
 ·skip
  have c46N := c46
  try simp at c46N
  first | have c46M : (_ = _) = True := eq_true c46N | have c46M := c46N
  rw [if_pos] at hr45
  rotate_left
  ·simp [c46, c46M]
  refine Ze (by simp [bV, c46, c46M]) ?_
  refine Zg ?_
  refine Zj ?_
  obtain ⟨j47, hj47, hr45⟩ := bs hr45
  obtain ⟨j47a, j47b, j47c⟩ := YM hj47
  obtain ⟨x48, hx48, hr45⟩ := bs hr45
  have ghx48 := Zz hx48
  refine Za rfl (by simp [j47a, j47b, j47c, hx48, ghx48, c46, c46M]; rfl) ?_
  obtain ⟨y49, hy49, hr45⟩ := bs hr45
  have ehy49 := Zs5 hy49
  simp only [E69, R69, nf, nfs] at ehy49
  obtain ⟨j47a, j47b, j47c⟩ := YM hj47
  have ghx48 := Zz hx48
  refine Zer rfl (by simp [hO, hT69, ehy49, j47a, j47b, j47c, hx48, ghx48, c46, c46M]; first | exact ⟨rfl, rfl⟩ | rfl) (by kernel_rfl) ?_
  simp only [pq, reduceCtorEq]
  refine ZM rfl (by simp [c46, c46M]; rfl) ?_
  obtain rfl := Option.some.inj hr45
  simp only [pq, reduceCtorEq]
  simp [und, List.replicate, Nat.add_assoc, c46, c46M]
 ·skip
  have c46N := c46
  try simp at c46N
  first | have c46M : (_ = _) = True := eq_true c46N | have c46M := c46N
  rw [if_neg] at hr45
  rotate_left
  ·simp [c46, c46M]
  refine Zf (by simp [bV, c46, c46M]) ?_
  refine ZD ?_
  obtain ⟨r50, q50, rfl⟩ := ms hr45
  simp only [pq, reduceCtorEq]
  rintro rfl
  try simp only [pq, reduceCtorEq]
  unfold Zbg at q50
  refine Zd ?_
  refine Za rfl (by simp [c46, c46M]; rfl) ?_
  refine Zj ?_
  refine Z2 (kq := ⟨[1, 2, 33, 34, 35], [1, 2, 9, 12], []⟩) (H := fun (s : Int × (List Tapi_Output)) => match s with | (p26, p27) => (⟨(und 1 ++ ([.ptr 1 0 0 0 4, .ptr 2 0 0 0 4] ++ (und 30 ++ ([.one (.ms 12 0 0 (p27.length) 2), .one (.v (.int .i64 (y38.length : Int))), .one (.v (.int .i64 p26))] ++ (und 14)))) : List PV), ([(1, ⟨0, 4, [[.v (.int .u32 a0.1), .ms 9 0 0 (p13.length) 35, .ms 12 0 0 (p27.length) 2, .v (.int .u32 a0.2.2.2)]], false, false⟩), (2, ⟨0, 4, [[.v (.int .u32 0), .slice .nil [], .slice .nil [], .v (.int .u32 0)]], false, false⟩), (9, ⟨0, 35, List.map Zo p13, false, true⟩), (12, ⟨0, 2, List.map Zm p27, false, true⟩)] : Boxes)⟩ : ASt)) (by kernel_rfl) q50 (by simp [und, List.replicate, c46, c46M]) ?_
  rintro ⟨p26, p27⟩ x57r hr57
  simp only [Zac] at hr57
  unfold b49_2
  simp only [und, List.replicate, List.cons_append, List.nil_append]
  refine Za rfl (by simp [c46, c46M]; rfl) ?_
  by_cases c58 : p26 < (y38.length : Int)
  ·skip
   have c58N := c58
   try simp at c58N
   first | have c58M : (_ = _) = True := eq_true c58N | have c58M := c58N
   rw [if_pos] at hr57
   rotate_left
   ·simp [c46, c46M, c58, c58M]
   refine Ze (by simp [bV, c46, c46M, c58, c58M]) ?_
   refine Zg ?_
   refine Zj ?_
   obtain ⟨j59, hj59, hr57⟩ := bs hr57
   obtain ⟨j59a, j59b, j59c⟩ := YM hj59
   obtain ⟨x60, hx60, hr57⟩ := bs hr57
   have ghx60 := Zz hx60
   refine Za rfl (by simp [j59a, j59b, j59c, hx60, ghx60, c46, c46M, c58, c58M]; rfl) ?_
   obtain ⟨y61, hy61, hr57⟩ := bs hr57
   have ehy61 := Znu hy61
   simp only [E51, R51, nf, nfs] at ehy61
   obtain ⟨j59a, j59b, j59c⟩ := YM hj59
   have ghx60 := Zz hx60
   refine Zer rfl (by simp [hO, hT51, ehy61, j59a, j59b, j59c, hx60, ghx60, c46, c46M, c58, c58M]; first | exact ⟨rfl, rfl⟩ | rfl) (by kernel_rfl) ?_
   simp only [pq, reduceCtorEq]
   refine ZM rfl (by simp [c46, c46M, c58, c58M]; rfl) ?_
   obtain rfl := Option.some.inj hr57
   simp only [pq, reduceCtorEq]
   simp [und, List.replicate, Nat.add_assoc, c46, c46M, c58, c58M]
  ·skip
   have c58N := c58
   try simp at c58N
   first | have c58M : (_ = _) = True := eq_true c58N | have c58M := c58N
   rw [if_neg] at hr57
   rotate_left
   ·simp [c46, c46M, c58, c58M]
   refine Zf (by simp [bV, c46, c46M, c58, c58M]) ?_
   refine ZD ?_
   obtain ⟨r62, q62, rfl⟩ := ms hr57
   simp only [pq, reduceCtorEq]
   rintro rfl
   try simp only [pq, reduceCtorEq]
   unfold Ze5 at q62
   refine Za rfl (by simp [c46, c46M, c58, c58M]; rfl) ?_
   refine Zh ?_
   obtain rfl := Option.some.inj q62
   simp [Zi, c46, c46M, c58, c58M, c46N, c58N]
theorem Ztg (c : Nat) (w : World) : Calls Try.prog 50 #[.slice none 0 c] w fun e w' => e = .returned (.slice none 0 0) ∧ w' = w := by
 have h1 : ∀ w, (binOp .eql 29 (.slice none 0 c) (.slice none 0 0)).run Try.prog w = .ok (.bool true) w := fun w => by
  have h : ∀ d : Nat, (Op.equalIn (d + 1) 29 (.slice none 0 c) (.slice none 0 0)).run Try.prog w = .ok true w := fun d => by
   simp [Op.equalIn, run_underlying Try.underlying29]
  have h' : (Op.equal 29 (.slice none 0 c) (.slice none 0 0)).run Try.prog w = .ok true w := h 9999
  simp [binOp, h']
 go_enter Try.func50, Try.ntmps50
 go_wp2
 go_ret
 exact ⟨rfl, rfl⟩
theorem Zr1 (b : Addr) (c : Nat) (w : World) : Calls Try.prog 50 #[.slice (some b) 0 c] w fun e w' => e = .returned (.slice (some ⟨w.heap.size, 0, none⟩) 0 0) ∧ w' = w.alloc (.cells #[] 93) := by
 have h1 : ∀ w, (binOp .eql 29 (.slice (some b) 0 c) (.slice none 0 0)).run Try.prog w = .ok (.bool false) w := fun w => by
  have h : (Op.equal 29 (.slice (some b) 0 c) (.slice none 0 0)).run Try.prog w = .ok false w := Zdl 9999 Try.underlying29
  simp [binOp, h]
 have h2 : ∀ w, (Instr.buildSlice 29 0 #[]).run Try.prog w = .ok (.slice (some ⟨w.heap.size, 0, none⟩) 0 0) (w.alloc (.cells #[] 93)) := fun w => by kernel_rfl
 have hi0 : (Try.prog.info? 93).isSome = true := by kernel_rfl
 obtain ⟨i, hi⟩ := Option.isSome_iff_exists.1 hi0
 have h3 : ∀ (w : World) (x : Option Addr) ty, (Builtin.append_ #[29, 29] ty #[.slice x 0 0, .slice (some b) 0 c]).run Try.prog w = .ok (.slice x 0 0) w := fun w x ty => Zbt w 29 ty 93 i Try.underlying29 hi x (some b) 0 0 c (Nat.le_refl _)
 clear hi hi0
 go_enter Try.func50, Try.ntmps50
 go_wp2
 go_ret
 exact ⟨rfl, rfl⟩
def kp50 : Keep := fun i => ⟨[], [], []⟩
theorem w50 {T : Tab} (a0 : (List Tapi_Coin)) (hne : a0 ≠ []) (x : (List Tapi_Coin)) (hr : Z4 a0 = some x) : ∃ kp fl n, ZC tt T G kp fl n Try.f50 [.one (.slice .no (List.map ZL a0))] = some (.one (.own 37 (List.map ZL a0)), []) := by
 refine fnE (kp := kp50) (w := true) body50 (by simp) ?_
 unfold c50
 rw [Try.ntmps50]
 unfold Z4 at hr
 obtain ⟨_, u1, hr⟩ := bs hr
 have u2 := ZG u1
 have n1 : a0.length * 88 ≤ 140737488355328 := by omega
 have n2 : a0.length ≤ 9223372036854775807 := by omega
 have ne : List.map ZL a0 ≠ [] := fun h => hne (by simpa [Zk] using h)
 refine Za rfl (by simp; rfl) ?_
 first
 | (refine Zd ?_; refine Za rfl (by simp [hne, ne]; rfl) ?_)
 | refine Za rfl (by simp [hne, ne]; rfl) ?_
 refine Zf (by simp [bV]) ?_
 refine Zg ?_
 refine Za rfl (by simp [n1, n2]; rfl) ?_
 refine Zh ?_
 simp [Zi]
theorem v50 : ZN Try.prog G 50 G50 := by
 refine ZeE (e := 37) (t := 93) (N := 0) (rows := fun l : (List Tapi_Coin) => List.map ZL l) Try.func50 (by kernel_rfl) (by kernel_rfl) G50 (fun ps r hF => ?_) rfl (fun l hl r hF => ?_) (fun x c w => ?_)
 ·obtain ⟨x, rfl, h⟩ := Za3 hF
  obtain ⟨y, hy, rfl⟩ := Option.map_eq_some_iff.1 h
  unfold Z4 at hy
  obtain ⟨_, u1, hy⟩ := bs hy
  obtain rfl := Option.some.inj hy
  exact ⟨x, rfl, rfl⟩
 ·refine ZgB (T := Av.tab []) mixed htt (Av.tab_ok trivial) Try.func50 body50 (by kernel_rfl) fun ps r' ho hF' => ?_
  split at hF'
  ·rename_i hps
   subst hps
   injection hF' with hF'
   subst hF'
   obtain ⟨x, hx, h⟩ := Za3 hF
   obtain rfl := E50i l x hx
   obtain ⟨y, hy, rfl⟩ := Option.map_eq_some_iff.1 h
   have hy' := hy
   unfold Z4 at hy'
   obtain ⟨_, u1, hy'⟩ := bs hy'
   obtain rfl := Option.some.inj hy'
   exact w50 l hl _ hy
  ·cases hF'
 ·cases x with
  | none => exact (Ztg c w).mono fun e w' h => ⟨none, h.1, .inl h.2⟩
  | some b => exact (Zr1 b c w).mono fun e w' h => ⟨_, h.1, .inr h.2⟩
def kp23 : Keep := fun i => if i = 3 then ⟨[1, 2, 14, 15, 16], [1, 2, 7, 10, 100007], []⟩ else ⟨[], [], []⟩
theorem w23 {T : Tab} (hO : T.own = fun _ => []) (hT49 : T 49 = some G49) (hT50 : T 50 = some G50) (hT51 : T 51 = some G51) (a0 : Tapi_Plan) (x : Tapi_Plan) (hr : YL a0 = some x) : ∃ kp fl n, ZC tt T G kp fl n Try.f23 (E23 a0) = some (R23 a0 x) := by
 simp only [E23, R23]
 refine fnE (kp := kp23) (w := true) body23 (by simp) ?_
 unfold c23
 rw [Try.ntmps23]
 unfold YL at hr
 refine Za rfl (by simp []; rfl) ?_
 obtain ⟨y20, hy20, hr⟩ := bs hr
 have ehy20 := Zs6 hy20
 simp only [E49, R49, nf, nfs] at ehy20
 obtain ⟨y21, hy21, hr⟩ := bs hr
 have ehy21 := Zs7 hy21
 simp only [E50, R50, nf, nfs] at ehy21
 refine ZR rfl (by simp [hO, hT49, ehy20, hT50, ehy21]; first | exact ⟨rfl, rfl⟩ | rfl) (by kernel_rfl) ?_
 refine Zd ?_
 refine Za rfl (by simp []; rfl) ?_
 refine Zj ?_
 refine Z2 (kq := ⟨[1, 2, 14, 15, 16], [1, 2, 7, 10, 100007], []⟩) (H := fun (s : Int × (List Tapi_Coin)) => match s with | (p12, p13) => (⟨(und 1 ++ ([.ptr 1 0 0 0 7, .ptr 2 0 0 0 7] ++ (und 11 ++ ([.one (.ms 10 0 0 (p13.length) 37), .one (.v (.int .i64 (y21.length : Int))), .one (.v (.int .i64 p12))] ++ (und 16)))) : List PV), ([(1, ⟨0, 7, [[.v (.int .u32 y20.1), .ms 7 0 0 (y20.2.1.length) 35, .ms 100007 0 0 (y20.2.2.1.length) 2, .v (.int .u32 y20.2.2.2), .ms 10 0 0 (p13.length) 37, .v (.int .i64 a0.2.2.1), .v (.int .i64 a0.2.2.2)]], false, false⟩), (2, ⟨0, 7, [[.v (.int .u32 0), .slice .nil [], .slice .nil [], .v (.int .u32 0), .slice .nil [], .v (.int .i64 0), .v (.int .i64 0)]], false, false⟩), (7, ⟨0, 35, List.map Zo y20.2.1, false, true⟩), (10, ⟨0, 37, List.map ZL p13, false, true⟩), (100007, ⟨0, 2, List.map Zm y20.2.2.1, false, true⟩)] : Boxes)⟩ : ASt)) (by kernel_rfl) hr (by simp [und, List.replicate, ]) ?_
 rintro ⟨p12, p13⟩ x28r hr28
 simp only [XN] at hr28
 unfold b23_1
 simp only [und, List.replicate, List.cons_append, List.nil_append]
 refine Za rfl (by simp []; rfl) ?_
 by_cases c29 : p12 < (y21.length : Int)
 ·skip
  have c29N := c29
  try simp at c29N
  first | have c29M : (_ = _) = True := eq_true c29N | have c29M := c29N
  rw [if_pos] at hr28
  rotate_left
  ·simp [c29, c29M]
  refine Ze (by simp [bV, c29, c29M]) ?_
  refine Zg ?_
  refine Zj ?_
  obtain ⟨j30, hj30, hr28⟩ := bs hr28
  obtain ⟨j30a, j30b, j30c⟩ := YM hj30
  obtain ⟨x31, hx31, hr28⟩ := bs hr28
  have ghx31 := Zz hx31
  refine Za rfl (by simp [j30a, j30b, j30c, hx31, ghx31, c29, c29M]; rfl) ?_
  obtain ⟨y32, hy32, hr28⟩ := bs hr28
  have ehy32 := Znu hy32
  simp only [E51, R51, nf, nfs] at ehy32
  obtain ⟨j30a, j30b, j30c⟩ := YM hj30
  have ghx31 := Zz hx31
  refine Zer rfl (by simp [hO, hT51, ehy32, j30a, j30b, j30c, hx31, ghx31, c29, c29M]; first | exact ⟨rfl, rfl⟩ | rfl) (by kernel_rfl) ?_
  simp only [pq, reduceCtorEq]
  refine ZM rfl (by simp [c29, c29M]; rfl) ?_
  obtain rfl := Option.some.inj hr28
  simp only [pq, reduceCtorEq]
  simp [und, List.replicate, Nat.add_assoc, c29, c29M]
 ·skip
  have c29N := c29
  try simp at c29N
  first | have c29M : (_ = _) = True := eq_true c29N | have c29M := c29N
  rw [if_neg] at hr28
  rotate_left
  ·simp [c29, c29M]
  refine Zf (by simp [bV, c29, c29M]) ?_
  refine ZD ?_
  obtain ⟨r33, q33, rfl⟩ := ms hr28
  simp only [pq, reduceCtorEq]
  rintro rfl
  try simp only [pq, reduceCtorEq]
  unfold Zes at q33
  refine Za rfl (by simp [c29, c29M]; rfl) ?_
  refine Zh ?_
  obtain rfl := Option.some.inj q33
  simp [Zi, c29, c29M, c29N]
end Go.Proofs.Ytbjhgolpnjokbaa
