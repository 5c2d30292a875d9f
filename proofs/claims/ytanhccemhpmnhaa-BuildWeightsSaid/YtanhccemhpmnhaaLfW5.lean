import Derived.Test.YtanhccemhpmnhaaLfK
import Derived.Test.YtanhccemhpmnhaaCode
namespace Go.Proofs.Ytanhccemhpmnhaa
open Go.RowKit
open Go.Av
open Go.Lc
set_option maxRecDepth 100000
set_option linter.unusedSimpArgs false
set_option linter.unusedVariables false
variable {G : Glob}
def kp16 : Keep := fun i => if i = 3 then ⟨[1, 5, 6], [], []⟩ else ⟨[], [], []⟩
theorem w16 {T : Tab} (hT33 : T 33 = some G_Lref09_Weight) (hT34 : T 34 = some G_Lref34_bare) (a0 : Tapi_Tx) (a1 : (List Tapi_Spendable)) (x : Int) (hr : Lref34_Weight a0 a1 = some x) : ∃ kp fl n, execFn tt T G kp fl n Try.f16 [.agg ([.v (.int .u32 a0.1), .slice .no (List.map eapi_Input a0.2.1), .slice .no (List.map eapi_Output a0.2.2.1), .v (.int .u32 a0.2.2.2)]), .one (.slice .no (List.map eapi_Spendable a1))] = some (.one (.v (.int .i64 x)), []) := by
  refine fnE (kp := kp16) (w := false) body16 ?_
  unfold c16
  rw [Try.ntmps16]
  unfold Lref34_Weight at hr
  refine ee_seq_reg rfl (by simp [-chunk, -Cell.isSl, -callOp, callOp_eq, ]; rfl) ?_
  obtain ⟨y11, hy11, hr⟩ := Option.bind_eq_some_iff.1 hr
  have ehy11 := G_Lref34_bare_eq hy11
  try simp only [intsR_nil, intsR_cons, intsR_app, intsR_tk, intsR_dr, intsR_st, intsR_rep, List.map_nil, List.map_cons, List.map_append, List.map_take, List.map_drop, List.map_set, List.map_replicate, List.nil_append, List.cons_append, List.append_assoc] at ehy11
  obtain ⟨y12, hy12, hr⟩ := Option.bind_eq_some_iff.1 hr
  have ehy12 := G_Lref09_Weight_eq hy12
  try simp only [intsR_nil, intsR_cons, intsR_app, intsR_tk, intsR_dr, intsR_st, intsR_rep, List.map_nil, List.map_cons, List.map_append, List.map_take, List.map_drop, List.map_set, List.map_replicate, List.nil_append, List.cons_append, List.append_assoc] at ehy12
  refine ee_seq_reg rfl (by simp [-chunk, -Cell.isSl, -callOp, callOp_eq, hT34, ehy11, hT33, ehy12]; rfl) ?_
  refine ee_assoc ?_
  refine ee_seq_reg rfl (by simp [-chunk, -Cell.isSl, -callOp, callOp_eq, ]; rfl) ?_
  refine ee_seq_block ?_
  refine ee_loop (kq := ⟨[1, 5, 6], [], []⟩) (H := fun (s : Int × Int) => match s with | (p7, p8) => (⟨(und 1 ++ ([.one (.slice .no (List.map eapi_Spendable a1))] ++ (und 3 ++ ([.one (.v (.int .i64 p7)), .one (.v (.int .i64 p8))] ++ (und 17)))) : List PV), ([] : Boxes)⟩ : ASt)) (by kernel_rfl) hr (by simp [und, List.replicate, ]) ?_
  rintro ⟨p7, p8⟩ x13r hr13
  simp only [Lref34_Weight_s1] at hr13
  unfold b16_1
  simp only [und, List.replicate, List.cons_append, List.nil_append]
  refine ee_assoc ?_
  refine ee_seq_reg rfl (by simp [-chunk, -Cell.isSl, -callOp, callOp_eq, ]; rfl) ?_
  by_cases c14 : p8 < (a1.length : Int)
  · skip
    have c14N := c14
    try simp at c14N
    rw [if_pos] at hr13
    rotate_left
    · simp [c14, c14N]
    refine ee_seq_condT (by simp [bV, c14, c14N]) ?_
    refine ee_seq_skip ?_
    refine ee_seq_block ?_
    obtain ⟨x15, hx15, hr13⟩ := Option.bind_eq_some_iff.1 hr13
    obtain ⟨hx15a, hx15b⟩ := idx_some hx15
    have hx15c := getE_of hx15b
    refine ee_reg rfl (by simp [-chunk, -Cell.isSl, -callOp, callOp_eq, hx15a, hx15b, hx15c, c14, c14N]; rfl) ?_
    simp only [outOf, thenQ, QL, if_true, ite_true, reduceCtorEq, if_false]
    refine ee_reg rfl (by simp [-chunk, -Cell.isSl, -callOp, callOp_eq, c14, c14N]; rfl) ?_
    obtain rfl := Option.some.inj hr13
    simp only [outOf, thenQ, QL, if_true, ite_true, reduceCtorEq, if_false]
    simp [und, List.replicate, Nat.add_assoc, c14, c14N]
  · skip
    have c14N := c14
    try simp at c14N
    rw [if_neg] at hr13
    rotate_left
    · simp [c14, c14N]
    refine ee_seq_condF (by simp [bV, c14, c14N]) ?_
    refine ee_seq_exit ?_
    obtain ⟨r16, q16, rfl⟩ := Option.map_eq_some_iff.1 hr13
    simp only [outOf, thenQ, QL, if_true, ite_true, reduceCtorEq, if_false]
    rintro rfl
    try simp only [outOf, thenQ, QL, if_true, ite_true, reduceCtorEq, if_false]
    unfold Lref34_Weight_k1 at q16
    refine ee_seq_reg rfl (by simp [-chunk, -Cell.isSl, -callOp, callOp_eq, c14, c14N]; rfl) ?_
    refine ee_ret ?_
    obtain rfl := Option.some.inj q16
    simp [FinQ, -chunk, -Cell.isSl, -callOp, callOp_eq, c14, c14N]
def kp3 : Keep := fun i => if i = 7 then ⟨[7, 10, 11, 41, 42, 43], [7, 10, 19, 21, 41, 100019], []⟩ else ⟨[], [], []⟩
theorem w3 {T : Tab} (hT6 : T 6 = some G_Llaw34_sane) (hT7 : T 7 = some G_Lmill_New) (hT8 : T 8 = some G_Lmill_Tx) (hT9 : T 9 = some G_Lmill_Spendables) (hT10 : T 10 = some G_Lmill_Mod) (hT11 : T 11 = some G_Lbuild_Fee) (hT12 : T 12 = some G_Lref34_Fee) (hT13 : T 13 = some G_Lbuild_InputWeight) (hT14 : T 14 = some G_Lref34_InputWeight) (hT15 : T 15 = some G_Lbuild_Weight) (hT16 : T 16 = some G_Lref34_Weight) (a0 : Int) (a1 : Int) (a2 : (List Int)) (a3 : Tapi_Spendable) (x : Bool) (hr : Llaw34_BuildWeights a0 a1 a2 a3 = some x) : ∃ kp fl n, execFn tt T G kp fl n Try.f3 [.one (.v (.int .i64 a0)), .one (.v (.int .i64 a1)), .one (.slice .no (intsR .i64 a2)), .agg ((arC .u8 a3.1.1.1) ++ ((.v (.int .u32 a3.1.1.2)) :: ((.v (.int .i64 a3.1.2.1.1)) :: ((.slice .no (intsR .u8 a3.1.2.1.2)) :: ((.v (.int .i64 a3.1.2.2.1)) :: ((.v (.bool a3.1.2.2.2)) :: ((.v (.int .i64 a3.2)) :: [])))))))] = some (.one (.v (.bool x)), []) := by
  refine fnE (kp := kp3) (w := false) body3 ?_
  unfold c3
  rw [Try.ntmps3]
  unfold Llaw34_BuildWeights at hr
  refine ee_seq_reg rfl (by simp [-chunk, -Cell.isSl, -callOp, callOp_eq, ]; rfl) ?_
  refine ee_assoc ?_
  obtain ⟨y31, hy31, hr⟩ := Option.bind_eq_some_iff.1 hr
  have ehy31 := G_Llaw34_sane_eq hy31
  try simp only [intsR_nil, intsR_cons, intsR_app, intsR_tk, intsR_dr, intsR_st, intsR_rep, List.map_nil, List.map_cons, List.map_append, List.map_take, List.map_drop, List.map_set, List.map_replicate, List.nil_append, List.cons_append, List.append_assoc] at ehy31
  refine ee_seq_reg rfl (by simp [-chunk, -Cell.isSl, -callOp, callOp_eq, hT6, ehy31]; rfl) ?_
  by_cases c32 : y31 = true
  · skip
    rw [if_neg] at hr
    rotate_left
    · simp [c32]
    refine ee_seq_condF (by simp [bV, c32]) ?_
    refine ee_seq_skip ?_
    obtain ⟨y33, hy33, hr⟩ := Option.bind_eq_some_iff.1 hr
    have ehy33 := G_Lmill_New_eq hy33
    try simp only [intsR_nil, intsR_cons, intsR_app, intsR_tk, intsR_dr, intsR_st, intsR_rep, List.map_nil, List.map_cons, List.map_append, List.map_take, List.map_drop, List.map_set, List.map_replicate, List.nil_append, List.cons_append, List.append_assoc] at ehy33
    refine ee_seq_reg rfl (by simp [-chunk, -Cell.isSl, -callOp, callOp_eq, hT7, ehy33, c32]; rfl) ?_
    obtain ⟨y34, hy34, hr⟩ := Option.bind_eq_some_iff.1 hr
    have ehy34 := G_Lmill_Tx_eq hy34
    try simp only [intsR_nil, intsR_cons, intsR_app, intsR_tk, intsR_dr, intsR_st, intsR_rep, List.map_nil, List.map_cons, List.map_append, List.map_take, List.map_drop, List.map_set, List.map_replicate, List.nil_append, List.cons_append, List.append_assoc] at ehy34
    obtain ⟨y35, hy35, hr⟩ := Option.bind_eq_some_iff.1 hr
    have ehy35 := G_Lmill_Spendables_eq hy35
    try simp only [intsR_nil, intsR_cons, intsR_app, intsR_tk, intsR_dr, intsR_st, intsR_rep, List.map_nil, List.map_cons, List.map_append, List.map_take, List.map_drop, List.map_set, List.map_replicate, List.nil_append, List.cons_append, List.append_assoc] at ehy35
    refine ee_seq_reg rfl (by simp [-chunk, -Cell.isSl, -callOp, callOp_eq, hT8, ehy34, hT9, ehy35, c32]; rfl) ?_
    obtain ⟨y36, hy36, hr⟩ := Option.bind_eq_some_iff.1 hr
    have ehy36 := G_Lmill_Mod_eq hy36
    try simp only [intsR_nil, intsR_cons, intsR_app, intsR_tk, intsR_dr, intsR_st, intsR_rep, List.map_nil, List.map_cons, List.map_append, List.map_take, List.map_drop, List.map_set, List.map_replicate, List.nil_append, List.cons_append, List.append_assoc] at ehy36
    refine ee_seq_reg rfl (by simp [-chunk, -Cell.isSl, -callOp, callOp_eq, hT10, ehy36, c32]; rfl) ?_
    refine ee_assoc ?_
    obtain ⟨y37, hy37, hr⟩ := Option.bind_eq_some_iff.1 hr
    have ehy37 := G_Lmill_Mod_eq hy37
    try simp only [intsR_nil, intsR_cons, intsR_app, intsR_tk, intsR_dr, intsR_st, intsR_rep, List.map_nil, List.map_cons, List.map_append, List.map_take, List.map_drop, List.map_set, List.map_replicate, List.nil_append, List.cons_append, List.append_assoc] at ehy37
    obtain ⟨y38, hy38, hr⟩ := Option.bind_eq_some_iff.1 hr
    have ehy38 := G_Lmill_Mod_eq hy38
    try simp only [intsR_nil, intsR_cons, intsR_app, intsR_tk, intsR_dr, intsR_st, intsR_rep, List.map_nil, List.map_cons, List.map_append, List.map_take, List.map_drop, List.map_set, List.map_replicate, List.nil_append, List.cons_append, List.append_assoc] at ehy38
    obtain ⟨y39, hy39, hr⟩ := Option.bind_eq_some_iff.1 hr
    have ehy39 := G_Lmill_Mod_eq hy39
    try simp only [intsR_nil, intsR_cons, intsR_app, intsR_tk, intsR_dr, intsR_st, intsR_rep, List.map_nil, List.map_cons, List.map_append, List.map_take, List.map_drop, List.map_set, List.map_replicate, List.nil_append, List.cons_append, List.append_assoc] at ehy39
    obtain ⟨y40, hy40, hr⟩ := Option.bind_eq_some_iff.1 hr
    have ehy40 := G_Lmill_Mod_eq hy40
    try simp only [intsR_nil, intsR_cons, intsR_app, intsR_tk, intsR_dr, intsR_st, intsR_rep, List.map_nil, List.map_cons, List.map_append, List.map_take, List.map_drop, List.map_set, List.map_replicate, List.nil_append, List.cons_append, List.append_assoc] at ehy40
    refine ee_seq_reg rfl (by simp [-chunk, -Cell.isSl, -callOp, callOp_eq, hT10, ehy37, ehy38, ehy39, ehy40, List.range, List.range.loop, c32]; rfl) ?_
    refine ee_seq_block ?_
    refine ee_loop (kq := ⟨[7, 10, 11, 41, 42, 43], [7, 10, 19, 21, 41, 100019], []⟩) (H := fun (s : Int) => match s with | p17 => (⟨(und 7 ++ ([.ptr 7 0 0 0 38] ++ (und 2 ++ ([.ptr 10 0 0 0 4, .one (.ms 21 0 0 (y35.1.length) 38)] ++ (und 29 ++ ([.one (.ms 41 0 0 (3) 2), .one (.v (.int .i64 (3 : Int))), .one (.v (.int .i64 p17))] ++ (und 29)))))) : List PV), ([(7, ⟨0, 38, [(arC .u8 a3.1.1.1) ++ ((.v (.int .u32 a3.1.1.2)) :: ((.v (.int .i64 a3.1.2.1.1)) :: ((.slice .no (intsR .u8 a3.1.2.1.2)) :: ((.v (.int .i64 a3.1.2.2.1)) :: ((.v (.bool a3.1.2.2.2)) :: ((.v (.int .i64 y36)) :: []))))))], false, false⟩), (10, ⟨0, 4, [[.v (.int .u32 y34.1.1), .ms 19 0 0 (y34.1.2.1.length) 35, .ms 100019 0 0 (y34.1.2.2.1.length) 2, .v (.int .u32 y34.1.2.2.2)]], false, false⟩), (19, ⟨0, 35, List.map eapi_Input y34.1.2.1, false, true⟩), (21, ⟨0, 38, List.map eapi_Spendable y35.1, false, true⟩), (41, ⟨0, 2, List.map (arC .i64) [(⟨[a0, a1], rfl⟩ : Arr 2), (⟨[y37, y38], rfl⟩ : Arr 2), (⟨[IntKind.i64.wrap (80000 + y39), IntKind.i64.wrap (1048576 + y40)], rfl⟩ : Arr 2)], false, true⟩), (100019, ⟨0, 2, List.map eapi_Output y34.1.2.2.1, false, true⟩)] : Boxes)⟩ : ASt)) (by kernel_rfl) hr (by simp [und, List.replicate, c32]) ?_
    rintro p17 x41r hr41
    simp only [Llaw34_BuildWeights_s1] at hr41
    unfold b3_1
    simp only [und, List.replicate, List.cons_append, List.nil_append]
    refine ee_seq_reg rfl (by simp [-chunk, -Cell.isSl, -callOp, callOp_eq, c32]; rfl) ?_
    by_cases c42 : p17 < (3 : Int)
    · skip
      rw [if_pos] at hr41
      rotate_left
      · simp [c32, c42]
      refine ee_seq_condT (by simp [bV, c32, c42]) ?_
      refine ee_seq_skip ?_
      refine ee_seq_block ?_
      obtain ⟨j43, hj43, hr41⟩ := Option.bind_eq_some_iff.1 hr41
      obtain ⟨j43a, j43b, j43c⟩ := inA_some hj43
      obtain ⟨x44, hx44, hr41⟩ := Option.bind_eq_some_iff.1 hr41
      have ghx44 := getE_of hx44
      have mhx44 : (List.map (arC .i64) ([(⟨[a0, a1], rfl⟩ : Arr 2), (⟨[y37, y38], rfl⟩ : Arr 2), (⟨[IntKind.i64.wrap (80000 + y39), IntKind.i64.wrap (1048576 + y40)], rfl⟩ : Arr 2)]))[j43]? = some ((arC .i64) x44) := by rw [List.getElem?_map, hx44]; rfl
      simp only [List.map_cons, List.map_nil, arC_lit, ints_cons, ints_nil] at mhx44
      have mghx44 := getE_of mhx44
      refine ee_seq_reg rfl (by simp [-chunk, -Cell.isSl, -callOp, callOp_eq, j43a, j43b, j43c, hx44, ghx44, mhx44, mghx44, c32, c42]; rfl) ?_
      have ar45 := arC_get (k := .i64) (x44) (i := 0) (by decide)
      have as46 := arC_sub (k := .i64) (x44) (i := 0) (by decide)
      have ar47 := arC_get (k := .i64) (x44) (i := 1) (by decide)
      have as48 := arC_sub (k := .i64) (x44) (i := 1) (by decide)
      obtain ⟨y49, hy49, hr41⟩ := Option.bind_eq_some_iff.1 hr41
      have ehy49 := G_Lbuild_Fee_eq hy49
      try simp only [intsR_nil, intsR_cons, intsR_app, intsR_tk, intsR_dr, intsR_st, intsR_rep, List.map_nil, List.map_cons, List.map_append, List.map_take, List.map_drop, List.map_set, List.map_replicate, List.nil_append, List.cons_append, List.append_assoc] at ehy49
      have ar50 := arC_get (k := .i64) (x44) (i := 0) (by decide)
      have as51 := arC_sub (k := .i64) (x44) (i := 0) (by decide)
      have ar52 := arC_get (k := .i64) (x44) (i := 1) (by decide)
      have as53 := arC_sub (k := .i64) (x44) (i := 1) (by decide)
      obtain ⟨y54, hy54, hr41⟩ := Option.bind_eq_some_iff.1 hr41
      have ehy54 := G_Lref34_Fee_eq hy54
      try simp only [intsR_nil, intsR_cons, intsR_app, intsR_tk, intsR_dr, intsR_st, intsR_rep, List.map_nil, List.map_cons, List.map_append, List.map_take, List.map_drop, List.map_set, List.map_replicate, List.nil_append, List.cons_append, List.append_assoc] at ehy54
      refine ee_seq_draw rfl (by simp [-chunk, -Cell.isSl, -callOp, callOp_eq, ar45, as46, ar47, as48, hT11, ehy49, ar50, as51, ar52, as53, hT12, ehy54, c32, c42]; first | exact ⟨rfl, rfl⟩ | rfl) (by kernel_rfl) ?_
      by_cases c55 : y49 = y54
      · skip
        rw [if_neg] at hr41
        rotate_left
        · simp [c32, c42, eq_true c55]
        refine ee_condF (by simp [bV, c32, c42, eq_true c55]) ?_
        refine ee_skip ?_
        simp only [outOf, thenQ, QL, if_true, ite_true, reduceCtorEq, if_false]
        refine ee_reg rfl (by simp [-chunk, -Cell.isSl, -callOp, callOp_eq, c32, c42, eq_true c55]; rfl) ?_
        obtain rfl := Option.some.inj hr41
        simp only [outOf, thenQ, QL, if_true, ite_true, reduceCtorEq, if_false]
        simp [und, List.replicate, Nat.add_assoc, c32, c42, eq_true c55]
      · skip
        rw [if_pos] at hr41
        rotate_left
        · simp [c32, c42, c55]
        refine ee_condT (by simp [bV, c32, c42, c55]) ?_
        refine ee_seq_reg rfl (by simp [-chunk, -Cell.isSl, -callOp, callOp_eq, c32, c42, c55]; rfl) ?_
        refine ee_ret ?_
        obtain rfl := Option.some.inj hr41
        simp only [outOf, thenQ, QL, if_true, ite_true, reduceCtorEq, if_false]
        rintro rfl
        simp [FinQ, -chunk, -Cell.isSl, -callOp, callOp_eq, c32, c42, c55]
    · skip
      rw [if_neg] at hr41
      rotate_left
      · simp [c32, c42]
      refine ee_seq_condF (by simp [bV, c32, c42]) ?_
      refine ee_seq_exit ?_
      obtain ⟨r56, q56, rfl⟩ := Option.map_eq_some_iff.1 hr41
      simp only [outOf, thenQ, QL, if_true, ite_true, reduceCtorEq, if_false]
      rintro rfl
      try simp only [outOf, thenQ, QL, if_true, ite_true, reduceCtorEq, if_false]
      unfold Llaw34_BuildWeights_k1 at q56
      obtain ⟨y57, hy57, q56⟩ := Option.bind_eq_some_iff.1 q56
      have ehy57 := G_Lbuild_InputWeight_eq hy57
      try simp only [intsR_nil, intsR_cons, intsR_app, intsR_tk, intsR_dr, intsR_st, intsR_rep, List.map_nil, List.map_cons, List.map_append, List.map_take, List.map_drop, List.map_set, List.map_replicate, List.nil_append, List.cons_append, List.append_assoc] at ehy57
      obtain ⟨y58, hy58, q56⟩ := Option.bind_eq_some_iff.1 q56
      have ehy58 := G_Lref34_InputWeight_eq hy58
      try simp only [intsR_nil, intsR_cons, intsR_app, intsR_tk, intsR_dr, intsR_st, intsR_rep, List.map_nil, List.map_cons, List.map_append, List.map_take, List.map_drop, List.map_set, List.map_replicate, List.nil_append, List.cons_append, List.append_assoc] at ehy58
      by_cases c59 : y57 = y58
      · skip
        rw [if_pos] at q56
        rotate_left
        · simp [c32, c42, eq_true c59]
        obtain ⟨z60, hz60, q56⟩ := Option.bind_eq_some_iff.1 q56
        obtain ⟨y61, hy61, hz60⟩ := Option.bind_eq_some_iff.1 hz60
        have ehy61 := G_Lbuild_Weight_eq hy61
        try simp only [intsR_nil, intsR_cons, intsR_app, intsR_tk, intsR_dr, intsR_st, intsR_rep, List.map_nil, List.map_cons, List.map_append, List.map_take, List.map_drop, List.map_set, List.map_replicate, List.nil_append, List.cons_append, List.append_assoc] at ehy61
        obtain ⟨y62, hy62, hz60⟩ := Option.bind_eq_some_iff.1 hz60
        have ehy62 := G_Lref34_Weight_eq hy62
        try simp only [intsR_nil, intsR_cons, intsR_app, intsR_tk, intsR_dr, intsR_st, intsR_rep, List.map_nil, List.map_cons, List.map_append, List.map_take, List.map_drop, List.map_set, List.map_replicate, List.nil_append, List.cons_append, List.append_assoc] at ehy62
        obtain rfl := Option.some.inj hz60
        refine ee_seq_draw rfl (by simp [-chunk, -Cell.isSl, -callOp, callOp_eq, hT13, ehy57, hT14, ehy58, hT15, ehy61, hT16, ehy62, c32, c42, eq_true c59]; first | exact ⟨rfl, rfl⟩ | rfl) (by kernel_rfl) ?_
        refine ee_ret ?_
        obtain rfl := Option.some.inj q56
        simp [FinQ, -chunk, -Cell.isSl, -callOp, callOp_eq, hT13, ehy57, hT14, ehy58, hT15, ehy61, hT16, ehy62, c32, c42, eq_true c59]
      · skip
        rw [if_neg] at q56
        rotate_left
        · simp [c32, c42, c59]
        obtain ⟨z63, hz63, q56⟩ := Option.bind_eq_some_iff.1 q56
        obtain rfl := Option.some.inj hz63
        refine ee_seq_draw rfl (by simp [-chunk, -Cell.isSl, -callOp, callOp_eq, hT13, ehy57, hT14, ehy58, c32, c42, c59]; first | exact ⟨rfl, rfl⟩ | rfl) (by kernel_rfl) ?_
        refine ee_ret ?_
        obtain rfl := Option.some.inj q56
        simp [FinQ, -chunk, -Cell.isSl, -callOp, callOp_eq, hT13, ehy57, hT14, ehy58, c32, c42, c59]
  · skip
    rw [if_pos] at hr
    rotate_left
    · simp [c32]
    refine ee_seq_condT (by simp [bV, c32]) ?_
    refine ee_assoc ?_
    refine ee_seq_reg rfl (by simp [-chunk, -Cell.isSl, -callOp, callOp_eq, c32]; rfl) ?_
    refine ee_seq_ret ?_
    obtain rfl := Option.some.inj hr
    simp [FinQ, -chunk, -Cell.isSl, -callOp, callOp_eq, c32]
end Go.Proofs.Ytanhccemhpmnhaa
