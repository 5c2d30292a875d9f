import Derived.Test.YtconfbgcjkjnkaaDoorLfK
import Derived.Test.YtconfbgcjkjnkaaDoorCode
namespace Go.Proofs.YtconfbgcjkjnkaaDoor
open Go.RowKit
open Go.Av
open Go.Lc
set_option maxRecDepth 100000
set_option linter.unusedSimpArgs false
set_option linter.unusedVariables false
set_option maxHeartbeats 4000000
def kp124 : Keep := fun i => if i = 5 then ⟨[2, 4, 5, 6, 7, 8, 9, 10, 11, 12, 13, 35], [2, 4, 5], []⟩ else ⟨[], [], []⟩
theorem w124 {T : Tab} (hT126 : T 126 = some G_Lsha_schedule) (hT127 : T 127 = some G_Lsha_rotr) (a0 : (Arr 8)) (a1 : (Arr 64)) (x : (Arr 8)) (hr : Lsha_Compress a0 a1 = some x) : ∃ kp fl n, execFn tt T G kp fl n Tryd.f124 [.agg (arC .u32 a0), .agg (arC .u8 a1)] = some (.agg (arC .u32 x), []) := by
  refine fnE (kp := kp124) (w := false) body124 ?_
  unfold c124
  rw [Tryd.ntmps124]
  unfold Lsha_Compress at hr
  refine ee_seq_reg rfl (by simp [-chunk, -Cell.isSl, -callOp, callOp_eq, ]; rfl) ?_
  obtain ⟨y47, hy47, hr⟩ := Option.bind_eq_some_iff.1 hr
  have ehy47 := G_Lsha_schedule_eq hy47
  try simp only [intsR_nil, intsR_cons, intsR_app, intsR_tk, intsR_dr, intsR_st, intsR_rep, List.map_nil, List.map_cons, List.map_append, List.map_take, List.map_drop, List.map_set, List.map_replicate, List.nil_append, List.cons_append, List.append_assoc, eS_I_u8, eapi_Input, eapi_Output] at ehy47
  refine ee_seq_reg rfl (by simp [-chunk, -Cell.isSl, -callOp, callOp_eq, hT126, ehy47]; rfl) ?_
  have ar48 := arC_get (k := .u32) (a0) (i := 0) (by decide)
  have as49 := arC_sub (k := .u32) (a0) (i := 0) (by decide)
  have ar50 := arC_get (k := .u32) (a0) (i := 1) (by decide)
  have as51 := arC_sub (k := .u32) (a0) (i := 1) (by decide)
  have ar52 := arC_get (k := .u32) (a0) (i := 2) (by decide)
  have as53 := arC_sub (k := .u32) (a0) (i := 2) (by decide)
  have ar54 := arC_get (k := .u32) (a0) (i := 3) (by decide)
  have as55 := arC_sub (k := .u32) (a0) (i := 3) (by decide)
  refine ee_seq_draw rfl (by simp [-chunk, -Cell.isSl, -callOp, callOp_eq, ar48, as49, ar50, as51, ar52, as53, ar54, as55]; first | exact ⟨rfl, rfl⟩ | rfl) (by kernel_rfl) ?_
  have ar56 := arC_get (k := .u32) (a0) (i := 4) (by decide)
  have as57 := arC_sub (k := .u32) (a0) (i := 4) (by decide)
  have ar58 := arC_get (k := .u32) (a0) (i := 5) (by decide)
  have as59 := arC_sub (k := .u32) (a0) (i := 5) (by decide)
  have ar60 := arC_get (k := .u32) (a0) (i := 6) (by decide)
  have as61 := arC_sub (k := .u32) (a0) (i := 6) (by decide)
  have ar62 := arC_get (k := .u32) (a0) (i := 7) (by decide)
  have as63 := arC_sub (k := .u32) (a0) (i := 7) (by decide)
  refine ee_seq_draw rfl (by simp [-chunk, -Cell.isSl, -callOp, callOp_eq, ar56, as57, ar58, as59, ar60, as61, ar62, as63]; first | exact ⟨rfl, rfl⟩ | rfl) (by kernel_rfl) ?_
  refine ee_assoc ?_
  refine ee_seq_reg rfl (by simp [-chunk, -Cell.isSl, -callOp, callOp_eq, ]; rfl) ?_
  refine ee_seq_block ?_
  refine ee_loop (kq := ⟨[2, 4, 5, 6, 7, 8, 9, 10, 11, 12, 13, 35], [2, 4, 5], []⟩) (H := fun (s : Int × Int × Int × Int × Int × Int × Int × Int × Int) => match s with | (p24, p25, p26, p27, p28, p29, p30, p31, p32) => (⟨(und 2 ++ ([.ptr 2 0 0 0 8] ++ (und 1 ++ ([.ptr 4 0 0 0 8, .ptr 5 0 0 0 64, .one (.v (.int .u32 p24)), .one (.v (.int .u32 p25)), .one (.v (.int .u32 p26)), .one (.v (.int .u32 p27)), .one (.v (.int .u32 p28)), .one (.v (.int .u32 p29)), .one (.v (.int .u32 p30)), .one (.v (.int .u32 p31))] ++ (und 21 ++ ([.one (.v (.int .i64 p32))] ++ (und 95)))))) : List PV), ([(2, ⟨0, 8, [arC .u32 a0], false, false⟩), (4, ⟨0, 8, [arC .u32 (zA 8)], false, false⟩), (5, ⟨0, 64, [arC .u32 y47], false, false⟩)] : Boxes)⟩ : ASt)) (by kernel_rfl) hr (by simp [und, List.replicate, ]) ?_
  rintro ⟨p24, p25, p26, p27, p28, p29, p30, p31, p32⟩ x64r hr64
  simp only [Lsha_Compress_s1] at hr64
  unfold b124_1
  simp only [und, List.replicate, List.cons_append, List.nil_append]
  refine ee_seq_reg rfl (by simp [-chunk, -Cell.isSl, -callOp, callOp_eq, ]; rfl) ?_
  by_cases c65 : p32 < 64
  · skip
    rw [if_pos] at hr64
    rotate_left
    · simp [c65]
    refine ee_seq_condT (by simp [bV, c65]) ?_
    refine ee_seq_skip ?_
    refine ee_seq_block ?_
    refine ee_seq_reg rfl (by simp [-chunk, -Cell.isSl, -callOp, callOp_eq, c65]; rfl) ?_
    obtain ⟨y66, hy66, hr64⟩ := Option.bind_eq_some_iff.1 hr64
    have ehy66 := G_Lsha_rotr_eq hy66
    try simp only [intsR_nil, intsR_cons, intsR_app, intsR_tk, intsR_dr, intsR_st, intsR_rep, List.map_nil, List.map_cons, List.map_append, List.map_take, List.map_drop, List.map_set, List.map_replicate, List.nil_append, List.cons_append, List.append_assoc, eS_I_u8, eapi_Input, eapi_Output] at ehy66
    obtain ⟨y67, hy67, hr64⟩ := Option.bind_eq_some_iff.1 hr64
    have ehy67 := G_Lsha_rotr_eq hy67
    try simp only [intsR_nil, intsR_cons, intsR_app, intsR_tk, intsR_dr, intsR_st, intsR_rep, List.map_nil, List.map_cons, List.map_append, List.map_take, List.map_drop, List.map_set, List.map_replicate, List.nil_append, List.cons_append, List.append_assoc, eS_I_u8, eapi_Input, eapi_Output] at ehy67
    obtain ⟨y68, hy68, hr64⟩ := Option.bind_eq_some_iff.1 hr64
    have ehy68 := G_Lsha_rotr_eq hy68
    try simp only [intsR_nil, intsR_cons, intsR_app, intsR_tk, intsR_dr, intsR_st, intsR_rep, List.map_nil, List.map_cons, List.map_append, List.map_take, List.map_drop, List.map_set, List.map_replicate, List.nil_append, List.cons_append, List.append_assoc, eS_I_u8, eapi_Input, eapi_Output] at ehy68
    obtain ⟨j69, hj69, hr64⟩ := Option.bind_eq_some_iff.1 hr64
    obtain ⟨j69a, j69b, j69c⟩ := inA_some hj69
    have j69d : j69 ≤ 63 := by omega
    have ar70 := arC_get (k := .u32) (shaK) (i := j69) j69c
    have as71 := arC_sub (k := .u32) (shaK) (i := j69) j69c
    obtain ⟨j69a, j69b, j69c⟩ := inA_some hj69
    have j69d : j69 ≤ 63 := by omega
    have ar72 := arC_get (k := .u32) (y47) (i := j69) j69c
    have as73 := arC_sub (k := .u32) (y47) (i := j69) j69c
    refine ee_seq_draw rfl (by simp [-chunk, -Cell.isSl, -callOp, callOp_eq, hT127, ehy66, ehy67, ehy68, j69a, j69b, j69c, j69d, ar70, as71, ar72, as73, c65]; first | exact ⟨rfl, rfl⟩ | rfl) (by kernel_rfl) ?_
    obtain ⟨y74, hy74, hr64⟩ := Option.bind_eq_some_iff.1 hr64
    have ehy74 := G_Lsha_rotr_eq hy74
    try simp only [intsR_nil, intsR_cons, intsR_app, intsR_tk, intsR_dr, intsR_st, intsR_rep, List.map_nil, List.map_cons, List.map_append, List.map_take, List.map_drop, List.map_set, List.map_replicate, List.nil_append, List.cons_append, List.append_assoc, eS_I_u8, eapi_Input, eapi_Output] at ehy74
    obtain ⟨y75, hy75, hr64⟩ := Option.bind_eq_some_iff.1 hr64
    have ehy75 := G_Lsha_rotr_eq hy75
    try simp only [intsR_nil, intsR_cons, intsR_app, intsR_tk, intsR_dr, intsR_st, intsR_rep, List.map_nil, List.map_cons, List.map_append, List.map_take, List.map_drop, List.map_set, List.map_replicate, List.nil_append, List.cons_append, List.append_assoc, eS_I_u8, eapi_Input, eapi_Output] at ehy75
    obtain ⟨y76, hy76, hr64⟩ := Option.bind_eq_some_iff.1 hr64
    have ehy76 := G_Lsha_rotr_eq hy76
    try simp only [intsR_nil, intsR_cons, intsR_app, intsR_tk, intsR_dr, intsR_st, intsR_rep, List.map_nil, List.map_cons, List.map_append, List.map_take, List.map_drop, List.map_set, List.map_replicate, List.nil_append, List.cons_append, List.append_assoc, eS_I_u8, eapi_Input, eapi_Output] at ehy76
    refine ee_seq_reg rfl (by simp [-chunk, -Cell.isSl, -callOp, callOp_eq, hT127, ehy74, ehy75, ehy76, c65]; rfl) ?_
    refine ee_reg rfl (by simp [-chunk, -Cell.isSl, -callOp, callOp_eq, c65]; rfl) ?_
    simp only [outOf, thenQ, QL, if_true, ite_true, reduceCtorEq, if_false]
    refine ee_reg rfl (by simp [-chunk, -Cell.isSl, -callOp, callOp_eq, c65]; rfl) ?_
    obtain rfl := Option.some.inj hr64
    simp only [outOf, thenQ, QL, if_true, ite_true, reduceCtorEq, if_false]
    simp [und, List.replicate, Nat.add_assoc, c65]
  · skip
    rw [if_neg] at hr64
    rotate_left
    · simp [c65]
    refine ee_seq_condF (by simp [bV, c65]) ?_
    refine ee_seq_exit ?_
    obtain ⟨r77, q77, rfl⟩ := Option.map_eq_some_iff.1 hr64
    simp only [outOf, thenQ, QL, if_true, ite_true, reduceCtorEq, if_false]
    rintro rfl
    try simp only [outOf, thenQ, QL, if_true, ite_true, reduceCtorEq, if_false]
    unfold Lsha_Compress_k1 at q77
    have ar78 := arC_get (k := .u32) (a0) (i := 0) (by decide)
    have as79 := arC_sub (k := .u32) (a0) (i := 0) (by decide)
    have ar80 := arC_get (k := .u32) (a0) (i := 1) (by decide)
    have as81 := arC_sub (k := .u32) (a0) (i := 1) (by decide)
    have ar82 := arC_get (k := .u32) (a0) (i := 2) (by decide)
    have as83 := arC_sub (k := .u32) (a0) (i := 2) (by decide)
    have ar84 := arC_get (k := .u32) (a0) (i := 3) (by decide)
    have as85 := arC_sub (k := .u32) (a0) (i := 3) (by decide)
    have ar86 := arC_get (k := .u32) (a0) (i := 4) (by decide)
    have as87 := arC_sub (k := .u32) (a0) (i := 4) (by decide)
    have ar88 := arC_get (k := .u32) (a0) (i := 5) (by decide)
    have as89 := arC_sub (k := .u32) (a0) (i := 5) (by decide)
    have ar90 := arC_get (k := .u32) (a0) (i := 6) (by decide)
    have as91 := arC_sub (k := .u32) (a0) (i := 6) (by decide)
    have ar92 := arC_get (k := .u32) (a0) (i := 7) (by decide)
    have as93 := arC_sub (k := .u32) (a0) (i := 7) (by decide)
    have ap94 := arC_put (k := .u32) (zA 8) (i := 0) (by decide) (IntKind.u32.wrap ((a0.at 0) + p24))
    have ap95 := arC_put (k := .u32) ((zA 8).put 0 (IntKind.u32.wrap ((a0.at 0) + p24))) (i := 1) (by decide) (IntKind.u32.wrap ((a0.at 1) + p25))
    have ap96 := arC_put (k := .u32) (((zA 8).put 0 (IntKind.u32.wrap ((a0.at 0) + p24))).put 1 (IntKind.u32.wrap ((a0.at 1) + p25))) (i := 2) (by decide) (IntKind.u32.wrap ((a0.at 2) + p26))
    have ap97 := arC_put (k := .u32) ((((zA 8).put 0 (IntKind.u32.wrap ((a0.at 0) + p24))).put 1 (IntKind.u32.wrap ((a0.at 1) + p25))).put 2 (IntKind.u32.wrap ((a0.at 2) + p26))) (i := 3) (by decide) (IntKind.u32.wrap ((a0.at 3) + p27))
    have ap98 := arC_put (k := .u32) (((((zA 8).put 0 (IntKind.u32.wrap ((a0.at 0) + p24))).put 1 (IntKind.u32.wrap ((a0.at 1) + p25))).put 2 (IntKind.u32.wrap ((a0.at 2) + p26))).put 3 (IntKind.u32.wrap ((a0.at 3) + p27))) (i := 4) (by decide) (IntKind.u32.wrap ((a0.at 4) + p28))
    have ap99 := arC_put (k := .u32) ((((((zA 8).put 0 (IntKind.u32.wrap ((a0.at 0) + p24))).put 1 (IntKind.u32.wrap ((a0.at 1) + p25))).put 2 (IntKind.u32.wrap ((a0.at 2) + p26))).put 3 (IntKind.u32.wrap ((a0.at 3) + p27))).put 4 (IntKind.u32.wrap ((a0.at 4) + p28))) (i := 5) (by decide) (IntKind.u32.wrap ((a0.at 5) + p29))
    have ap100 := arC_put (k := .u32) (((((((zA 8).put 0 (IntKind.u32.wrap ((a0.at 0) + p24))).put 1 (IntKind.u32.wrap ((a0.at 1) + p25))).put 2 (IntKind.u32.wrap ((a0.at 2) + p26))).put 3 (IntKind.u32.wrap ((a0.at 3) + p27))).put 4 (IntKind.u32.wrap ((a0.at 4) + p28))).put 5 (IntKind.u32.wrap ((a0.at 5) + p29))) (i := 6) (by decide) (IntKind.u32.wrap ((a0.at 6) + p30))
    have ap101 := arC_put (k := .u32) ((((((((zA 8).put 0 (IntKind.u32.wrap ((a0.at 0) + p24))).put 1 (IntKind.u32.wrap ((a0.at 1) + p25))).put 2 (IntKind.u32.wrap ((a0.at 2) + p26))).put 3 (IntKind.u32.wrap ((a0.at 3) + p27))).put 4 (IntKind.u32.wrap ((a0.at 4) + p28))).put 5 (IntKind.u32.wrap ((a0.at 5) + p29))).put 6 (IntKind.u32.wrap ((a0.at 6) + p30))) (i := 7) (by decide) (IntKind.u32.wrap ((a0.at 7) + p31))
    refine ee_seq_reg rfl (by simp [-chunk, -Cell.isSl, -callOp, callOp_eq, ar78, as79, ar80, as81, ar82, as83, ar84, as85, ar86, as87, ar88, as89, ar90, as91, ar92, as93, ap94, ap95, ap96, ap97, ap98, ap99, ap100, ap101, c65]; rfl) ?_
    refine ee_ret ?_
    obtain rfl := Option.some.inj q77
    simp [FinQ, -chunk, -Cell.isSl, -callOp, callOp_eq, ar78, as79, ar80, as81, ar82, as83, ar84, as85, ar86, as87, ar88, as89, ar90, as91, ar92, as93, ap94, ap95, ap96, ap97, ap98, ap99, ap100, ap101, c65]
def kp114 : Keep := fun i => if i = 4 then ⟨[2, 3, 4, 18, 19], [2, 4, 14], []⟩ else if i = 10 then ⟨[2, 4, 6, 31], [2, 4, 6], []⟩ else ⟨[], [], []⟩
theorem w114 {T : Tab} (hT122 : T 122 = some G_Lsha_row) (hT123 : T 123 = some G_Lsha_Pad) (hT124 : T 124 = some G_Lsha_Compress) (a0 : (List Int)) (x : (Arr 32)) (hr : Lsha_Sum a0 = some x) : ∃ kp fl n, execFn tt T G kp fl n Tryd.f114 [.one (.slice .no (intsR .u8 a0))] = some (.agg (arC .u8 x), []) := by
  refine fnE (kp := kp114) (w := false) body114 ?_
  unfold c114
  rw [Tryd.ntmps114]
  unfold Lsha_Sum at hr
  refine ee_seq_reg rfl (by simp [-chunk, -Cell.isSl, -callOp, callOp_eq, ]; rfl) ?_
  obtain ⟨y34, hy34, hr⟩ := Option.bind_eq_some_iff.1 hr
  have ehy34 := G_Lsha_Pad_eq hy34
  try simp only [intsR_nil, intsR_cons, intsR_app, intsR_tk, intsR_dr, intsR_st, intsR_rep, List.map_nil, List.map_cons, List.map_append, List.map_take, List.map_drop, List.map_set, List.map_replicate, List.nil_append, List.cons_append, List.append_assoc, eS_I_u8, eapi_Input, eapi_Output] at ehy34
  obtain ⟨y35, hy35, hr⟩ := Option.bind_eq_some_iff.1 hr
  have ehy35 := G_Lsha_row_eq hy35
  try simp only [intsR_nil, intsR_cons, intsR_app, intsR_tk, intsR_dr, intsR_st, intsR_rep, List.map_nil, List.map_cons, List.map_append, List.map_take, List.map_drop, List.map_set, List.map_replicate, List.nil_append, List.cons_append, List.append_assoc, eS_I_u8, eapi_Input, eapi_Output] at ehy35
  refine ee_seq_reg rfl (by simp [-chunk, -Cell.isSl, -callOp, callOp_eq, hT123, ehy34, List.range, List.range.loop, hT122, ehy35]; rfl) ?_
  refine ee_seq_reg rfl (by simp [-chunk, -Cell.isSl, -callOp, callOp_eq, ]; rfl) ?_
  refine ee_assoc ?_
  refine ee_seq_reg rfl (by simp [-chunk, -Cell.isSl, -callOp, callOp_eq, ]; rfl) ?_
  refine ee_seq_block ?_
  refine ee_loop (kq := ⟨[2, 3, 4, 18, 19], [2, 4, 14], []⟩) (H := fun (s : Int × (Arr 8)) => match s with | (p11, p12) => (⟨(und 2 ++ ([.ptr 2 0 0 0 32, .one (.ms 14 0 0 (y35.length) 1), .ptr 4 0 0 0 8] ++ (und 13 ++ ([.one (.v (.int .i64 (IntKind.i64.wrap (((y35.length : Int)).tdiv 64)))), .one (.v (.int .i64 p11))] ++ (und 28)))) : List PV), ([(2, ⟨0, 32, [arC .u8 (zA 32)], false, false⟩), (4, ⟨0, 8, [arC .u32 p12], false, false⟩), (14, ⟨0, 1, intsR .u8 y35, false, true⟩)] : Boxes)⟩ : ASt)) (by kernel_rfl) hr (by simp [und, List.replicate, ]) ?_
  rintro ⟨p11, p12⟩ x36r hr36
  simp only [Lsha_Sum_s1] at hr36
  unfold b114_1
  simp only [und, List.replicate, List.cons_append, List.nil_append]
  refine ee_seq_reg rfl (by simp [-chunk, -Cell.isSl, -callOp, callOp_eq, ]; rfl) ?_
  by_cases c37 : p11 < IntKind.i64.wrap (((y35.length : Int)).tdiv 64)
  · skip
    have c37N := c37
    try simp at c37N
    rw [if_pos] at hr36
    rotate_left
    · simp [c37, c37N]
    refine ee_seq_condT (by simp [bV, c37, c37N]) ?_
    refine ee_seq_skip ?_
    refine ee_seq_block ?_
    refine ee_seq_reg rfl (by simp [-chunk, -Cell.isSl, -callOp, callOp_eq, c37, c37N]; rfl) ?_
    obtain ⟨_, u38, hr36⟩ := Option.bind_eq_some_iff.1 hr36
    obtain ⟨u38_0, u38_1⟩ := chk_some u38
    have sf39 : (IntKind.i64.wrap (64 * p11)).toNat ≤ y35.length := by omega
    obtain ⟨_, u40, hr36⟩ := Option.bind_eq_some_iff.1 hr36
    have u40_0 := chk_some u40
    have fp41 := flat_part (k := .u8) (l := y35) (o := (IntKind.i64.wrap (64 * p11)).toNat) (n := 64) (by omega)
    have fp41l : (IntKind.i64.wrap (64 * p11)).toNat + 64 ≤ y35.length := by omega
    obtain ⟨y42, hy42, hr36⟩ := Option.bind_eq_some_iff.1 hr36
    have ehy42 := G_Lsha_Compress_eq hy42
    try simp only [intsR_nil, intsR_cons, intsR_app, intsR_tk, intsR_dr, intsR_st, intsR_rep, List.map_nil, List.map_cons, List.map_append, List.map_take, List.map_drop, List.map_set, List.map_replicate, List.nil_append, List.cons_append, List.append_assoc, eS_I_u8, eapi_Input, eapi_Output] at ehy42
    refine ee_draw rfl (by simp [-chunk, -Cell.isSl, -callOp, callOp_eq, u38_0, u38_1, sf39, u40_0, fp41, fp41l, hT124, ehy42, c37, c37N]; first | exact ⟨rfl, rfl⟩ | rfl) (by kernel_rfl) ?_
    simp only [outOf, thenQ, QL, if_true, ite_true, reduceCtorEq, if_false]
    refine ee_reg rfl (by simp [-chunk, -Cell.isSl, -callOp, callOp_eq, c37, c37N]; rfl) ?_
    obtain rfl := Option.some.inj hr36
    simp only [outOf, thenQ, QL, if_true, ite_true, reduceCtorEq, if_false]
    simp [und, List.replicate, Nat.add_assoc, c37, c37N]
  · skip
    have c37N := c37
    try simp at c37N
    rw [if_neg] at hr36
    rotate_left
    · simp [c37, c37N]
    refine ee_seq_condF (by simp [bV, c37, c37N]) ?_
    refine ee_seq_exit ?_
    obtain ⟨r43, q43, rfl⟩ := Option.map_eq_some_iff.1 hr36
    simp only [outOf, thenQ, QL, if_true, ite_true, reduceCtorEq, if_false]
    rintro rfl
    try simp only [outOf, thenQ, QL, if_true, ite_true, reduceCtorEq, if_false]
    unfold Lsha_Sum_k1 at q43
    refine ee_seq_reg rfl (by simp [-chunk, -Cell.isSl, -callOp, callOp_eq, c37, c37N]; rfl) ?_
    refine ee_assoc ?_
    refine ee_seq_reg rfl (by simp [-chunk, -Cell.isSl, -callOp, callOp_eq, c37, c37N]; rfl) ?_
    refine ee_seq_block ?_
    refine ee_loop (kq := ⟨[2, 4, 6, 31], [2, 4, 6], []⟩) (H := fun (s : Int × (Arr 32)) => match s with | (p23, p24) => (⟨(und 2 ++ ([.ptr 2 0 0 0 32] ++ (und 1 ++ ([.ptr 4 0 0 0 8] ++ (und 1 ++ ([.ptr 6 0 0 0 32] ++ (und 24 ++ ([.one (.v (.int .i64 p23))] ++ (und 16)))))))) : List PV), ([(2, ⟨0, 32, [arC .u8 (zA 32)], false, false⟩), (4, ⟨0, 8, [arC .u32 p12], false, false⟩), (6, ⟨0, 32, [arC .u8 p24], false, false⟩)] : Boxes)⟩ : ASt)) (by kernel_rfl) q43 (by simp [und, List.replicate, c37, c37N]) ?_
    rintro ⟨p23, p24⟩ x44r hr44
    simp only [Lsha_Sum_s2] at hr44
    unfold b114_2
    simp only [und, List.replicate, List.cons_append, List.nil_append]
    refine ee_seq_reg rfl (by simp [-chunk, -Cell.isSl, -callOp, callOp_eq, c37, c37N]; rfl) ?_
    by_cases c45 : p23 < 32
    · skip
      rw [if_pos] at hr44
      rotate_left
      · simp [c37, c37N, c45]
      refine ee_seq_condT (by simp [bV, c37, c37N, c45]) ?_
      refine ee_seq_skip ?_
      refine ee_seq_block ?_
      refine ee_seq_reg rfl (by simp [-chunk, -Cell.isSl, -callOp, callOp_eq, c37, c37N, c45]; rfl) ?_
      obtain ⟨j46, hj46, hr44⟩ := Option.bind_eq_some_iff.1 hr44
      obtain ⟨j46a, j46b, j46c⟩ := inA_some hj46
      have j46d : j46 ≤ 7 := by omega
      have ar47 := arC_get (k := .u32) (p12) (i := j46) j46c
      have as48 := arC_sub (k := .u32) (p12) (i := j46) j46c
      obtain ⟨_, u49, hr44⟩ := Option.bind_eq_some_iff.1 hr44
      have u49_0 := chk_some u49
      obtain ⟨j50, hj50, hr44⟩ := Option.bind_eq_some_iff.1 hr44
      obtain ⟨j50a, j50b, j50c⟩ := inA_some hj50
      have j50d : j50 ≤ 31 := by omega
      have ap51 := arC_put (k := .u8) (p24) (i := j50) j50c (IntKind.u8.wrap ((p12.at j46).fdiv (2 ^ (min (IntKind.i64.wrap (24 - (IntKind.i64.wrap (((p23).tmod 4) * 8)))).toNat 32))))
      refine ee_reg rfl (by simp [-chunk, -Cell.isSl, -callOp, callOp_eq, j46a, j46b, j46c, j46d, ar47, as48, u49_0, j50a, j50b, j50c, j50d, ap51, c37, c37N, c45]; rfl) ?_
      simp only [outOf, thenQ, QL, if_true, ite_true, reduceCtorEq, if_false]
      refine ee_reg rfl (by simp [-chunk, -Cell.isSl, -callOp, callOp_eq, c37, c37N, c45]; rfl) ?_
      obtain rfl := Option.some.inj hr44
      simp only [outOf, thenQ, QL, if_true, ite_true, reduceCtorEq, if_false]
      simp [und, List.replicate, Nat.add_assoc, c37, c37N, c45]
    · skip
      rw [if_neg] at hr44
      rotate_left
      · simp [c37, c37N, c45]
      refine ee_seq_condF (by simp [bV, c37, c37N, c45]) ?_
      refine ee_seq_exit ?_
      obtain ⟨r52, q52, rfl⟩ := Option.map_eq_some_iff.1 hr44
      simp only [outOf, thenQ, QL, if_true, ite_true, reduceCtorEq, if_false]
      rintro rfl
      try simp only [outOf, thenQ, QL, if_true, ite_true, reduceCtorEq, if_false]
      unfold Lsha_Sum_k2 at q52
      refine ee_seq_reg rfl (by simp [-chunk, -Cell.isSl, -callOp, callOp_eq, c37, c37N, c45]; rfl) ?_
      refine ee_ret ?_
      obtain rfl := Option.some.inj q52
      simp [FinQ, -chunk, -Cell.isSl, -callOp, callOp_eq, c37, c37N, c45]
def kp99 : Keep := fun i => ⟨[], [], []⟩
theorem w99 {T : Tab} (hT114 : T 114 = some G_Lsha_Sum) (a0 : (List Int)) (x : (Arr 32)) (hr : Lsha_Double a0 = some x) : ∃ kp fl n, execFn tt T G kp fl n Tryd.f99 [.one (.slice .no (intsR .u8 a0))] = some (.agg (arC .u8 x), []) := by
  refine fnE (kp := kp99) (w := false) body99 ?_
  unfold c99
  rw [Tryd.ntmps99]
  unfold Lsha_Double at hr
  refine ee_seq_reg rfl (by simp [-chunk, -Cell.isSl, -callOp, callOp_eq, ]; rfl) ?_
  obtain ⟨y3, hy3, hr⟩ := Option.bind_eq_some_iff.1 hr
  have ehy3 := G_Lsha_Sum_eq hy3
  try simp only [intsR_nil, intsR_cons, intsR_app, intsR_tk, intsR_dr, intsR_st, intsR_rep, List.map_nil, List.map_cons, List.map_append, List.map_take, List.map_drop, List.map_set, List.map_replicate, List.nil_append, List.cons_append, List.append_assoc, eS_I_u8, eapi_Input, eapi_Output] at ehy3
  refine ee_seq_reg rfl (by simp [-chunk, -Cell.isSl, -callOp, callOp_eq, hT114, ehy3]; rfl) ?_
  obtain ⟨y4, hy4, hr⟩ := Option.bind_eq_some_iff.1 hr
  have ehy4 := G_Lsha_Sum_eq hy4
  try simp only [intsR_nil, intsR_cons, intsR_app, intsR_tk, intsR_dr, intsR_st, intsR_rep, List.map_nil, List.map_cons, List.map_append, List.map_take, List.map_drop, List.map_set, List.map_replicate, List.nil_append, List.cons_append, List.append_assoc, eS_I_u8, eapi_Input, eapi_Output] at ehy4
  refine ee_seq_reg rfl (by simp [-chunk, -Cell.isSl, -callOp, callOp_eq, hT114, ehy4]; rfl) ?_
  refine ee_ret ?_
  obtain rfl := Option.some.inj hr
  simp [FinQ, -chunk, -Cell.isSl, -callOp, callOp_eq, hT114, ehy4]
def kp78 : Keep := fun i => ⟨[], [], []⟩
theorem w78 {T : Tab} (hT98 : T 98 = some G_Ltx_Encode) (hT99 : T 99 = some G_Lsha_Double) (a0 : Tapi_Tx) (a1 : Bool) (x : (Arr 32)) (hr : Ltx_digest a0 a1 = some x) : ∃ kp fl n, execFn tt T G kp fl n Tryd.f78 [.agg ([.v (.int .u32 a0.1), .slice .no (List.map eapi_Input a0.2.1), .slice .no (List.map eapi_Output a0.2.2.1), .v (.int .u32 a0.2.2.2)]), .one (.v (.bool a1))] = some (.agg (arC .u8 x), []) := by
  refine fnE (kp := kp78) (w := false) body78 ?_
  unfold c78
  rw [Tryd.ntmps78]
  unfold Ltx_digest at hr
  refine ee_seq_reg rfl (by simp [-chunk, -Cell.isSl, -callOp, callOp_eq, ]; rfl) ?_
  obtain ⟨y3, hy3, hr⟩ := Option.bind_eq_some_iff.1 hr
  have ehy3 := G_Ltx_Encode_eq hy3
  try simp only [intsR_nil, intsR_cons, intsR_app, intsR_tk, intsR_dr, intsR_st, intsR_rep, List.map_nil, List.map_cons, List.map_append, List.map_take, List.map_drop, List.map_set, List.map_replicate, List.nil_append, List.cons_append, List.append_assoc, eS_I_u8, eapi_Input, eapi_Output] at ehy3
  refine ee_seq_reg rfl (by simp [-chunk, -Cell.isSl, -callOp, callOp_eq, hT98, ehy3]; rfl) ?_
  refine ee_assoc ?_
  refine ee_seq_reg rfl (by simp [-chunk, -Cell.isSl, -callOp, callOp_eq, ]; rfl) ?_
  by_cases c4 : y3.2 = 0
  · skip
    rw [if_neg] at hr
    rotate_left
    · simp [eq_true c4]
    refine ee_seq_condF (by simp [bV, eq_true c4]) ?_
    refine ee_seq_skip ?_
    obtain ⟨y5, hy5, hr⟩ := Option.bind_eq_some_iff.1 hr
    have ehy5 := G_Lsha_Double_eq hy5
    try simp only [intsR_nil, intsR_cons, intsR_app, intsR_tk, intsR_dr, intsR_st, intsR_rep, List.map_nil, List.map_cons, List.map_append, List.map_take, List.map_drop, List.map_set, List.map_replicate, List.nil_append, List.cons_append, List.append_assoc, eS_I_u8, eapi_Input, eapi_Output] at ehy5
    refine ee_seq_reg rfl (by simp [-chunk, -Cell.isSl, -callOp, callOp_eq, hT99, ehy5, eq_true c4]; rfl) ?_
    refine ee_ret ?_
    obtain rfl := Option.some.inj hr
    simp [FinQ, -chunk, -Cell.isSl, -callOp, callOp_eq, hT99, ehy5, eq_true c4]
  · skip
    rw [if_pos] at hr
    rotate_left
    · simp [c4]
    refine ee_seq_condT (by simp [bV, c4]) ?_
    refine ee_assoc ?_
    refine ee_seq_reg rfl (by simp [-chunk, -Cell.isSl, -callOp, callOp_eq, c4]; rfl) ?_
    refine ee_seq_ret ?_
    obtain rfl := Option.some.inj hr
    simp [FinQ, -chunk, -Cell.isSl, -callOp, callOp_eq, c4]
def kp43 : Keep := fun i => ⟨[], [], []⟩
theorem w43 {T : Tab} (hT78 : T 78 = some G_Ltx_digest) (a0 : Tapi_Tx) (x : (Arr 32)) (hr : Ltx_ID a0 = some x) : ∃ kp fl n, execFn tt T G kp fl n Tryd.f43 [.agg ([.v (.int .u32 a0.1), .slice .no (List.map eapi_Input a0.2.1), .slice .no (List.map eapi_Output a0.2.2.1), .v (.int .u32 a0.2.2.2)])] = some (.agg (arC .u8 x), []) := by
  refine fnE (kp := kp43) (w := false) body43 ?_
  unfold c43
  rw [Tryd.ntmps43]
  unfold Ltx_ID at hr
  refine ee_seq_reg rfl (by simp [-chunk, -Cell.isSl, -callOp, callOp_eq, ]; rfl) ?_
  obtain ⟨y2, hy2, hr⟩ := Option.bind_eq_some_iff.1 hr
  have ehy2 := G_Ltx_digest_eq hy2
  try simp only [intsR_nil, intsR_cons, intsR_app, intsR_tk, intsR_dr, intsR_st, intsR_rep, List.map_nil, List.map_cons, List.map_append, List.map_take, List.map_drop, List.map_set, List.map_replicate, List.nil_append, List.cons_append, List.append_assoc, eS_I_u8, eapi_Input, eapi_Output] at ehy2
  refine ee_seq_reg rfl (by simp [-chunk, -Cell.isSl, -callOp, callOp_eq, hT78, ehy2]; rfl) ?_
  refine ee_ret ?_
  obtain rfl := Option.some.inj hr
  simp [FinQ, -chunk, -Cell.isSl, -callOp, callOp_eq, hT78, ehy2]
def kp46 : Keep := fun i => ⟨[], [], []⟩
theorem w46 {T : Tab} (a0 : Int) (x : Bool) (hr : Lreplace_money a0 = some x) : ∃ kp fl n, execFn tt T G kp fl n Tryd.f46 [.one (.v (.int .i64 a0))] = some (.one (.v (.bool x)), []) := by
  refine fnE (kp := kp46) (w := false) body46 ?_
  unfold c46
  rw [Tryd.ntmps46]
  unfold Lreplace_money at hr
  refine ee_seq_reg rfl (by simp [-chunk, -Cell.isSl, -callOp, callOp_eq, ]; rfl) ?_
  by_cases c1 : 0 ≤ a0
  · skip
    refine ee_seq_reg rfl (by simp [-chunk, -Cell.isSl, -callOp, callOp_eq, c1]; rfl) ?_
    refine ee_ret ?_
    obtain rfl := Option.some.inj hr
    simp [FinQ, -chunk, -Cell.isSl, -callOp, callOp_eq, c1]
  · skip
    refine ee_seq_reg rfl (by simp [-chunk, -Cell.isSl, -callOp, callOp_eq, c1]; rfl) ?_
    refine ee_ret ?_
    obtain rfl := Option.some.inj hr
    simp [FinQ, -chunk, -Cell.isSl, -callOp, callOp_eq, c1]
def kp47 : Keep := fun i => ⟨[], [], []⟩
theorem w47 {T : Tab} (hT46 : T 46 = some G_Lreplace_money) (a0 : Tapi_Entry) (x : Bool) (hr : Lreplace_Accept_3 a0 = some x) : ∃ kp fl n, execFn tt T G kp fl n Tryd.f47 [.agg ([.v (.int .u32 a0.1.1), .slice .no (List.map eapi_Input a0.1.2.1), .slice .no (List.map eapi_Output a0.1.2.2.1), .v (.int .u32 a0.1.2.2.2), .v (.int .i64 a0.2)])] = some (.one (.v (.bool x)), []) := by
  refine fnE (kp := kp47) (w := false) body47 ?_
  unfold c47
  rw [Tryd.ntmps47]
  unfold Lreplace_Accept_3 at hr
  refine ee_seq_reg rfl (by simp [-chunk, -Cell.isSl, -callOp, callOp_eq, ]; rfl) ?_
  obtain ⟨y2, hy2, hr⟩ := Option.bind_eq_some_iff.1 hr
  have ehy2 := G_Lreplace_money_eq hy2
  try simp only [intsR_nil, intsR_cons, intsR_app, intsR_tk, intsR_dr, intsR_st, intsR_rep, List.map_nil, List.map_cons, List.map_append, List.map_take, List.map_drop, List.map_set, List.map_replicate, List.nil_append, List.cons_append, List.append_assoc, eS_I_u8, eapi_Input, eapi_Output] at ehy2
  refine ee_seq_reg rfl (by simp [-chunk, -Cell.isSl, -callOp, callOp_eq, hT46, ehy2]; rfl) ?_
  refine ee_ret ?_
  obtain rfl := Option.some.inj hr
  simp [FinQ, -chunk, -Cell.isSl, -callOp, callOp_eq, hT46, ehy2]
def kp49 : Keep := fun i => ⟨[], [], []⟩
theorem w49 {T : Tab} (hT11 : T 11 = some G_Lreplace_Signals) (a0 : Tapi_Entry) (x : Bool) (hr : Lreplace_Accept_5 a0 = some x) : ∃ kp fl n, execFn tt T G kp fl n Tryd.f49 [.agg ([.v (.int .u32 a0.1.1), .slice .no (List.map eapi_Input a0.1.2.1), .slice .no (List.map eapi_Output a0.1.2.2.1), .v (.int .u32 a0.1.2.2.2), .v (.int .i64 a0.2)])] = some (.one (.v (.bool x)), []) := by
  refine fnE (kp := kp49) (w := false) body49 ?_
  unfold c49
  rw [Tryd.ntmps49]
  unfold Lreplace_Accept_5 at hr
  refine ee_seq_reg rfl (by simp [-chunk, -Cell.isSl, -callOp, callOp_eq, ]; rfl) ?_
  obtain ⟨y2, hy2, hr⟩ := Option.bind_eq_some_iff.1 hr
  have ehy2 := G_Lreplace_Signals_eq hy2
  try simp only [intsR_nil, intsR_cons, intsR_app, intsR_tk, intsR_dr, intsR_st, intsR_rep, List.map_nil, List.map_cons, List.map_append, List.map_take, List.map_drop, List.map_set, List.map_replicate, List.nil_append, List.cons_append, List.append_assoc, eS_I_u8, eapi_Input, eapi_Output] at ehy2
  refine ee_seq_reg rfl (by simp [-chunk, -Cell.isSl, -callOp, callOp_eq, hT11, ehy2]; rfl) ?_
  refine ee_ret ?_
  obtain rfl := Option.some.inj hr
  simp [FinQ, -chunk, -Cell.isSl, -callOp, callOp_eq, hT11, ehy2]
def kp66 : Keep := fun i => ⟨[], [], []⟩
theorem w66 {T : Tab} (hT75 : T 75 = some G_Ltx_fits) (hT95 : T 95 = some G_Ltx_encode) (a0 : Tapi_Tx) (x : Int) (hr : Ltx_Weight a0 = some x) : ∃ kp fl n, execFn tt T G kp fl n Tryd.f66 [.agg ([.v (.int .u32 a0.1), .slice .no (List.map eapi_Input a0.2.1), .slice .no (List.map eapi_Output a0.2.2.1), .v (.int .u32 a0.2.2.2)])] = some (.one (.v (.int .i64 x)), []) := by
  refine fnE (kp := kp66) (w := false) body66 ?_
  unfold c66
  rw [Tryd.ntmps66]
  unfold Ltx_Weight at hr
  refine ee_seq_reg rfl (by simp [-chunk, -Cell.isSl, -callOp, callOp_eq, ]; rfl) ?_
  refine ee_assoc ?_
  obtain ⟨y4, hy4, hr⟩ := Option.bind_eq_some_iff.1 hr
  have ehy4 := G_Ltx_fits_eq hy4
  try simp only [intsR_nil, intsR_cons, intsR_app, intsR_tk, intsR_dr, intsR_st, intsR_rep, List.map_nil, List.map_cons, List.map_append, List.map_take, List.map_drop, List.map_set, List.map_replicate, List.nil_append, List.cons_append, List.append_assoc, eS_I_u8, eapi_Input, eapi_Output] at ehy4
  refine ee_seq_reg rfl (by simp [-chunk, -Cell.isSl, -callOp, callOp_eq, hT75, ehy4]; rfl) ?_
  by_cases c5 : y4 = true
  · skip
    rw [if_neg] at hr
    rotate_left
    · simp [c5]
    refine ee_seq_condF (by simp [bV, c5]) ?_
    refine ee_seq_skip ?_
    obtain ⟨y6, hy6, hr⟩ := Option.bind_eq_some_iff.1 hr
    have ehy6 := G_Ltx_encode_eq hy6
    try simp only [intsR_nil, intsR_cons, intsR_app, intsR_tk, intsR_dr, intsR_st, intsR_rep, List.map_nil, List.map_cons, List.map_append, List.map_take, List.map_drop, List.map_set, List.map_replicate, List.nil_append, List.cons_append, List.append_assoc, eS_I_u8, eapi_Input, eapi_Output] at ehy6
    obtain ⟨y7, hy7, hr⟩ := Option.bind_eq_some_iff.1 hr
    have ehy7 := G_Ltx_encode_eq hy7
    try simp only [intsR_nil, intsR_cons, intsR_app, intsR_tk, intsR_dr, intsR_st, intsR_rep, List.map_nil, List.map_cons, List.map_append, List.map_take, List.map_drop, List.map_set, List.map_replicate, List.nil_append, List.cons_append, List.append_assoc, eS_I_u8, eapi_Input, eapi_Output] at ehy7
    refine ee_seq_draw rfl (by simp [-chunk, -Cell.isSl, -callOp, callOp_eq, hT95, ehy6, ehy7, c5]; first | exact ⟨rfl, rfl⟩ | rfl) (by kernel_rfl) ?_
    refine ee_ret ?_
    obtain rfl := Option.some.inj hr
    simp [FinQ, -chunk, -Cell.isSl, -callOp, callOp_eq, hT95, ehy6, ehy7, c5]
  · skip
    rw [if_pos] at hr
    rotate_left
    · simp [c5]
    refine ee_seq_condT (by simp [bV, c5]) ?_
    refine ee_assoc ?_
    refine ee_seq_reg rfl (by simp [-chunk, -Cell.isSl, -callOp, callOp_eq, c5]; rfl) ?_
    refine ee_seq_ret ?_
    obtain rfl := Option.some.inj hr
    simp [FinQ, -chunk, -Cell.isSl, -callOp, callOp_eq, c5]
def kp67 : Keep := fun i => ⟨[], [], []⟩
theorem w67 {T : Tab} (a0 : Int) (a1 : Int) (x : Int) (hr : Lbuild_Fee a0 a1 = some x) : ∃ kp fl n, execFn tt T G kp fl n Tryd.f67 [.one (.v (.int .i64 a0)), .one (.v (.int .i64 a1))] = some (.one (.v (.int .i64 x)), []) := by
  refine fnE (kp := kp67) (w := false) body67 ?_
  unfold c67
  rw [Tryd.ntmps67]
  unfold Lbuild_Fee at hr
  refine ee_seq_reg rfl (by simp [-chunk, -Cell.isSl, -callOp, callOp_eq, ]; rfl) ?_
  refine ee_assoc ?_
  by_cases c1 : a0 < 0
  · skip
    refine ee_seq_reg rfl (by simp [-chunk, -Cell.isSl, -callOp, callOp_eq, c1]; rfl) ?_
    rw [if_pos] at hr
    rotate_left
    · simp [c1]
    refine ee_seq_condT (by simp [bV, c1]) ?_
    refine ee_assoc ?_
    refine ee_seq_reg rfl (by simp [-chunk, -Cell.isSl, -callOp, callOp_eq, c1]; rfl) ?_
    refine ee_seq_ret ?_
    obtain rfl := Option.some.inj hr
    simp [FinQ, -chunk, -Cell.isSl, -callOp, callOp_eq, c1]
  · skip
    by_cases c2 : 80000 < a0
    · skip
      refine ee_seq_reg rfl (by simp [-chunk, -Cell.isSl, -callOp, callOp_eq, c1, c2]; rfl) ?_
      rw [if_pos] at hr
      rotate_left
      · simp [c1, c2]
      refine ee_seq_condT (by simp [bV, c1, c2]) ?_
      refine ee_assoc ?_
      refine ee_seq_reg rfl (by simp [-chunk, -Cell.isSl, -callOp, callOp_eq, c1, c2]; rfl) ?_
      refine ee_seq_ret ?_
      obtain rfl := Option.some.inj hr
      simp [FinQ, -chunk, -Cell.isSl, -callOp, callOp_eq, c1, c2]
    · skip
      by_cases c3 : a1 < 0
      · skip
        refine ee_seq_reg rfl (by simp [-chunk, -Cell.isSl, -callOp, callOp_eq, c1, c2, c3]; rfl) ?_
        rw [if_pos] at hr
        rotate_left
        · simp [c1, c2, c3]
        refine ee_seq_condT (by simp [bV, c1, c2, c3]) ?_
        refine ee_assoc ?_
        refine ee_seq_reg rfl (by simp [-chunk, -Cell.isSl, -callOp, callOp_eq, c1, c2, c3]; rfl) ?_
        refine ee_seq_ret ?_
        obtain rfl := Option.some.inj hr
        simp [FinQ, -chunk, -Cell.isSl, -callOp, callOp_eq, c1, c2, c3]
      · skip
        refine ee_seq_reg rfl (by simp [-chunk, -Cell.isSl, -callOp, callOp_eq, c1, c2, c3]; rfl) ?_
        by_cases c4 : 1048576 < a1
        · skip
          rw [if_pos] at hr
          rotate_left
          · simp [c1, c2, c3, c4]
          refine ee_seq_condT (by simp [bV, c1, c2, c3, c4]) ?_
          refine ee_assoc ?_
          refine ee_seq_reg rfl (by simp [-chunk, -Cell.isSl, -callOp, callOp_eq, c1, c2, c3, c4]; rfl) ?_
          refine ee_seq_ret ?_
          obtain rfl := Option.some.inj hr
          simp [FinQ, -chunk, -Cell.isSl, -callOp, callOp_eq, c1, c2, c3, c4]
        · skip
          rw [if_neg] at hr
          rotate_left
          · simp [c1, c2, c3, c4]
          refine ee_seq_condF (by simp [bV, c1, c2, c3, c4]) ?_
          refine ee_seq_skip ?_
          refine ee_seq_reg rfl (by simp [-chunk, -Cell.isSl, -callOp, callOp_eq, c1, c2, c3, c4]; rfl) ?_
          refine ee_ret ?_
          obtain rfl := Option.some.inj hr
          simp [FinQ, -chunk, -Cell.isSl, -callOp, callOp_eq, c1, c2, c3, c4]
def kp80 : Keep := fun i => ⟨[], [], []⟩
theorem w80 {T : Tab} (a0 : Int) (a1 : Int) (x : Int) (hr : Lfees_Rate a0 a1 = some x) : ∃ kp fl n, execFn tt T G kp fl n Tryd.f80 [.one (.v (.int .i64 a0)), .one (.v (.int .i64 a1))] = some (.one (.v (.int .i64 x)), []) := by
  refine fnE (kp := kp80) (w := false) body80 ?_
  unfold c80
  rw [Tryd.ntmps80]
  unfold Lfees_Rate at hr
  refine ee_seq_reg rfl (by simp [-chunk, -Cell.isSl, -callOp, callOp_eq, ]; rfl) ?_
  refine ee_assoc ?_
  by_cases c2 : a0 < 0
  · skip
    refine ee_seq_reg rfl (by simp [-chunk, -Cell.isSl, -callOp, callOp_eq, c2]; rfl) ?_
    rw [if_pos] at hr
    rotate_left
    · simp [c2]
    refine ee_seq_condT (by simp [bV, c2]) ?_
    refine ee_assoc ?_
    refine ee_seq_reg rfl (by simp [-chunk, -Cell.isSl, -callOp, callOp_eq, c2]; rfl) ?_
    refine ee_seq_ret ?_
    obtain rfl := Option.some.inj hr
    simp [FinQ, -chunk, -Cell.isSl, -callOp, callOp_eq, c2]
  · skip
    by_cases c3 : 2100000000000000 < a0
    · skip
      refine ee_seq_reg rfl (by simp [-chunk, -Cell.isSl, -callOp, callOp_eq, c2, c3]; rfl) ?_
      rw [if_pos] at hr
      rotate_left
      · simp [c2, c3]
      refine ee_seq_condT (by simp [bV, c2, c3]) ?_
      refine ee_assoc ?_
      refine ee_seq_reg rfl (by simp [-chunk, -Cell.isSl, -callOp, callOp_eq, c2, c3]; rfl) ?_
      refine ee_seq_ret ?_
      obtain rfl := Option.some.inj hr
      simp [FinQ, -chunk, -Cell.isSl, -callOp, callOp_eq, c2, c3]
    · skip
      by_cases c4 : a1 < 1
      · skip
        refine ee_seq_reg rfl (by simp [-chunk, -Cell.isSl, -callOp, callOp_eq, c2, c3, c4]; rfl) ?_
        rw [if_pos] at hr
        rotate_left
        · simp [c2, c3, c4]
        refine ee_seq_condT (by simp [bV, c2, c3, c4]) ?_
        refine ee_assoc ?_
        refine ee_seq_reg rfl (by simp [-chunk, -Cell.isSl, -callOp, callOp_eq, c2, c3, c4]; rfl) ?_
        refine ee_seq_ret ?_
        obtain rfl := Option.some.inj hr
        simp [FinQ, -chunk, -Cell.isSl, -callOp, callOp_eq, c2, c3, c4]
      · skip
        refine ee_seq_reg rfl (by simp [-chunk, -Cell.isSl, -callOp, callOp_eq, c2, c3, c4]; rfl) ?_
        by_cases c5 : 80000 < a1
        · skip
          rw [if_pos] at hr
          rotate_left
          · simp [c2, c3, c4, c5]
          refine ee_seq_condT (by simp [bV, c2, c3, c4, c5]) ?_
          refine ee_assoc ?_
          refine ee_seq_reg rfl (by simp [-chunk, -Cell.isSl, -callOp, callOp_eq, c2, c3, c4, c5]; rfl) ?_
          refine ee_seq_ret ?_
          obtain rfl := Option.some.inj hr
          simp [FinQ, -chunk, -Cell.isSl, -callOp, callOp_eq, c2, c3, c4, c5]
        · skip
          rw [if_neg] at hr
          rotate_left
          · simp [c2, c3, c4, c5]
          refine ee_seq_condF (by simp [bV, c2, c3, c4, c5]) ?_
          refine ee_seq_skip ?_
          obtain ⟨_, u6, hr⟩ := Option.bind_eq_some_iff.1 hr
          have u6_0 := chk_some u6
          refine ee_seq_reg rfl (by simp [-chunk, -Cell.isSl, -callOp, callOp_eq, u6_0, c2, c3, c4, c5]; rfl) ?_
          refine ee_ret ?_
          obtain rfl := Option.some.inj hr
          simp [FinQ, -chunk, -Cell.isSl, -callOp, callOp_eq, u6_0, c2, c3, c4, c5]
def kp82 : Keep := fun i => ⟨[], [], []⟩
theorem w82 {T : Tab} (hT66 : T 66 = some G_Ltx_Weight) (hT80 : T 80 = some G_Lfees_Rate) (a0 : Tapi_Entry) (x : Int) (hr : Lreplace_rateOf a0 = some x) : ∃ kp fl n, execFn tt T G kp fl n Tryd.f82 [.agg ([.v (.int .u32 a0.1.1), .slice .no (List.map eapi_Input a0.1.2.1), .slice .no (List.map eapi_Output a0.1.2.2.1), .v (.int .u32 a0.1.2.2.2), .v (.int .i64 a0.2)])] = some (.one (.v (.int .i64 x)), []) := by
  refine fnE (kp := kp82) (w := false) body82 ?_
  unfold c82
  rw [Tryd.ntmps82]
  unfold Lreplace_rateOf at hr
  refine ee_seq_reg rfl (by simp [-chunk, -Cell.isSl, -callOp, callOp_eq, ]; rfl) ?_
  obtain ⟨y3, hy3, hr⟩ := Option.bind_eq_some_iff.1 hr
  have ehy3 := G_Ltx_Weight_eq hy3
  try simp only [intsR_nil, intsR_cons, intsR_app, intsR_tk, intsR_dr, intsR_st, intsR_rep, List.map_nil, List.map_cons, List.map_append, List.map_take, List.map_drop, List.map_set, List.map_replicate, List.nil_append, List.cons_append, List.append_assoc, eS_I_u8, eapi_Input, eapi_Output] at ehy3
  obtain ⟨y4, hy4, hr⟩ := Option.bind_eq_some_iff.1 hr
  have ehy4 := G_Lfees_Rate_eq hy4
  try simp only [intsR_nil, intsR_cons, intsR_app, intsR_tk, intsR_dr, intsR_st, intsR_rep, List.map_nil, List.map_cons, List.map_append, List.map_take, List.map_drop, List.map_set, List.map_replicate, List.nil_append, List.cons_append, List.append_assoc, eS_I_u8, eapi_Input, eapi_Output] at ehy4
  refine ee_seq_draw rfl (by simp [-chunk, -Cell.isSl, -callOp, callOp_eq, hT66, ehy3, hT80, ehy4]; first | exact ⟨rfl, rfl⟩ | rfl) (by kernel_rfl) ?_
  refine ee_ret ?_
  obtain rfl := Option.some.inj hr
  simp [FinQ, -chunk, -Cell.isSl, -callOp, callOp_eq, hT66, ehy3, hT80, ehy4]
def kp81_9 : Keep := fun i => ⟨[], [], []⟩
theorem w81_9 {T : Tab} (hT82 : T 82 = some G_Lreplace_rateOf) (a0 : Tapi_Entry) (a1 : Int) (x : Bool) (hr : Lreplace_enough_1__r a0 a1 = some x) : ∃ kp fl n, execFn tt T G kp fl n Tryd.f81 [.agg ([.v (.int .u32 a0.1.1), .slice .no (List.map eapi_Input a0.1.2.1), .slice .no (List.map eapi_Output a0.1.2.2.1), .v (.int .u32 a0.1.2.2.2), .v (.int .i64 a0.2)]), .ref ([.v (.int .i64 a1)])] = some (.one (.v (.bool x)), []) := by
  refine fnE (kp := kp81_9) (w := false) body81 ?_
  unfold c81
  rw [Tryd.ntmps81]
  unfold Lreplace_enough_1__r at hr
  refine ee_seq_reg rfl (by simp [-chunk, -Cell.isSl, -callOp, callOp_eq, ]; rfl) ?_
  obtain ⟨y2, hy2, hr⟩ := Option.bind_eq_some_iff.1 hr
  have ehy2 := G_Lreplace_rateOf_eq hy2
  try simp only [intsR_nil, intsR_cons, intsR_app, intsR_tk, intsR_dr, intsR_st, intsR_rep, List.map_nil, List.map_cons, List.map_append, List.map_take, List.map_drop, List.map_set, List.map_replicate, List.nil_append, List.cons_append, List.append_assoc, eS_I_u8, eapi_Input, eapi_Output] at ehy2
  refine ee_seq_draw rfl (by simp [-chunk, -Cell.isSl, -callOp, callOp_eq, hT82, ehy2]; first | exact ⟨rfl, rfl⟩ | rfl) (by kernel_rfl) ?_
  refine ee_ret ?_
  obtain rfl := Option.some.inj hr
  simp [FinQ, -chunk, -Cell.isSl, -callOp, callOp_eq, hT82, ehy2]
def kp77_10 : Keep := fun i => if i = 2 then ⟨[0, 1, 7, 8], [], []⟩ else ⟨[], [], []⟩
theorem w77_10 {T : Tab} (hT81 : T 81 = some G_Lreplace_enough_1__r) (a0 : (List Tapi_Entry)) (a1 : Int) (x : Int) (hr : Lslices_IndexFunc_of__api_Entry_api_Entry__replace_enough_1 a0 a1 = some x) : ∃ kp fl n, execFn tt T G kp fl n Tryd.f77 [.one (.slice .no (List.map eapi_Entry a0)), .clo 81 [.ref ([.v (.int .i64 a1)])]] = some (.one (.v (.int .i64 x)), []) := by
  refine fnE (kp := kp77_10) (w := false) body77 ?_
  unfold c77
  rw [Tryd.ntmps77]
  unfold Lslices_IndexFunc_of__api_Entry_api_Entry__replace_enough_1 at hr
  refine ee_seq_reg rfl (by simp [-chunk, -Cell.isSl, -callOp, callOp_eq, ]; rfl) ?_
  refine ee_assoc ?_
  refine ee_seq_reg rfl (by simp [-chunk, -Cell.isSl, -callOp, callOp_eq, ]; rfl) ?_
  refine ee_seq_block ?_
  refine ee_loop (kq := ⟨[0, 1, 7, 8], [], []⟩) (H := fun (s : Int) => match s with | p6 => (⟨([.one (.slice .no (List.map eapi_Entry a0)), .clo 81 [.ref ([.v (.int .i64 a1)])]] ++ (und 5 ++ ([.one (.v (.int .i64 (a0.length : Int))), .one (.v (.int .i64 p6))] ++ (und 10))) : List PV), ([] : Boxes)⟩ : ASt)) (by kernel_rfl) hr (by simp [und, List.replicate, ]) ?_
  rintro p6 x11r hr11
  simp only [Lslices_IndexFunc_of__api_Entry_api_Entry__replace_enough_1_s1] at hr11
  unfold b77_1
  simp only [und, List.replicate, List.cons_append, List.nil_append]
  refine ee_seq_reg rfl (by simp [-chunk, -Cell.isSl, -callOp, callOp_eq, ]; rfl) ?_
  by_cases c12 : p6 < (a0.length : Int)
  · skip
    have c12N := c12
    try simp at c12N
    rw [if_pos] at hr11
    rotate_left
    · simp [c12, c12N]
    refine ee_seq_condT (by simp [bV, c12, c12N]) ?_
    refine ee_seq_skip ?_
    refine ee_seq_block ?_
    refine ee_seq_reg rfl (by simp [-chunk, -Cell.isSl, -callOp, callOp_eq, c12, c12N]; rfl) ?_
    obtain ⟨x13, hx13, hr11⟩ := Option.bind_eq_some_iff.1 hr11
    obtain ⟨hx13a, hx13b⟩ := idx_some hx13
    have hx13c := getE_of hx13b
    obtain ⟨y14, hy14, hr11⟩ := Option.bind_eq_some_iff.1 hr11
    have ehy14 := G_Lreplace_enough_1__r_eq hy14
    try simp only [intsR_nil, intsR_cons, intsR_app, intsR_tk, intsR_dr, intsR_st, intsR_rep, List.map_nil, List.map_cons, List.map_append, List.map_take, List.map_drop, List.map_set, List.map_replicate, List.nil_append, List.cons_append, List.append_assoc, eS_I_u8, eapi_Input, eapi_Output, eapi_Entry] at ehy14
    refine ee_seq_reg rfl (by simp [-chunk, -Cell.isSl, -callOp, callOp_eq, hx13a, hx13b, hx13c, hT81, ehy14, c12, c12N]; rfl) ?_
    by_cases c15 : y14 = true
    · skip
      rw [if_pos] at hr11
      rotate_left
      · simp [c12, c12N, c15]
      refine ee_condT (by simp [bV, c12, c12N, c15]) ?_
      refine ee_seq_reg rfl (by simp [-chunk, -Cell.isSl, -callOp, callOp_eq, c12, c12N, c15]; rfl) ?_
      refine ee_ret ?_
      obtain rfl := Option.some.inj hr11
      simp only [outOf, thenQ, QL, if_true, ite_true, reduceCtorEq, if_false]
      rintro rfl
      simp [FinQ, -chunk, -Cell.isSl, -callOp, callOp_eq, c12, c12N, c15]
    · skip
      rw [if_neg] at hr11
      rotate_left
      · simp [c12, c12N, c15]
      refine ee_condF (by simp [bV, c12, c12N, c15]) ?_
      refine ee_skip ?_
      simp only [outOf, thenQ, QL, if_true, ite_true, reduceCtorEq, if_false]
      refine ee_reg rfl (by simp [-chunk, -Cell.isSl, -callOp, callOp_eq, c12, c12N, c15]; rfl) ?_
      obtain rfl := Option.some.inj hr11
      simp only [outOf, thenQ, QL, if_true, ite_true, reduceCtorEq, if_false]
      simp [und, List.replicate, Nat.add_assoc, c12, c12N, c15]
  · skip
    have c12N := c12
    try simp at c12N
    rw [if_neg] at hr11
    rotate_left
    · simp [c12, c12N]
    refine ee_seq_condF (by simp [bV, c12, c12N]) ?_
    refine ee_seq_exit ?_
    obtain ⟨r16, q16, rfl⟩ := Option.map_eq_some_iff.1 hr11
    simp only [outOf, thenQ, QL, if_true, ite_true, reduceCtorEq, if_false]
    rintro rfl
    try simp only [outOf, thenQ, QL, if_true, ite_true, reduceCtorEq, if_false]
    unfold Lslices_IndexFunc_of__api_Entry_api_Entry__replace_enough_1_k1 at q16
    refine ee_seq_reg rfl (by simp [-chunk, -Cell.isSl, -callOp, callOp_eq, c12, c12N]; rfl) ?_
    refine ee_ret ?_
    obtain rfl := Option.some.inj q16
    simp [FinQ, -chunk, -Cell.isSl, -callOp, callOp_eq, c12, c12N]
end Go.Proofs.YtconfbgcjkjnkaaDoor
