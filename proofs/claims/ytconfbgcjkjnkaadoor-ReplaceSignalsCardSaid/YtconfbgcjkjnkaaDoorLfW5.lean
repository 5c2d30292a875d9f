import Derived.Test.YtconfbgcjkjnkaaDoorLfK
import Derived.Test.YtconfbgcjkjnkaaDoorCode
namespace Go.Proofs.YtconfbgcjkjnkaaDoor
open Go.RowKit
open Go.Av
open Go.Lc
set_option maxRecDepth 100000
set_option linter.unusedSimpArgs false
set_option linter.unusedVariables false
set_option maxHeartbeats 4000000
def kp41_11 : Keep := fun i => ⟨[], [], []⟩
theorem w41_11 {T : Tab} (hT77 : T 77 = some G_Lslices_IndexFunc_of__api_Entry_api_Entry__replace_enough_1) (a0 : (List Tapi_Entry)) (a1 : Int) (x : Bool) (hr : Lslices_ContainsFunc_of__api_Entry_api_Entry__replace_enough_1 a0 a1 = some x) : ∃ kp fl n, execFn tt T G kp fl n Tryd.f41 [.one (.slice .no (List.map eapi_Entry a0)), .clo 81 [.ref ([.v (.int .i64 a1)])]] = some (.one (.v (.bool x)), []) := by
  refine fnE (kp := kp41_11) (w := false) body41 ?_
  unfold c41
  rw [Tryd.ntmps41]
  unfold Lslices_ContainsFunc_of__api_Entry_api_Entry__replace_enough_1 at hr
  refine ee_seq_reg rfl (by simp [-chunk, -Cell.isSl, -callOp, callOp_eq, ]; rfl) ?_
  obtain ⟨y2, hy2, hr⟩ := Option.bind_eq_some_iff.1 hr
  have ehy2 := G_Lslices_IndexFunc_of__api_Entry_api_Entry__replace_enough_1_eq hy2
  try simp only [intsR_nil, intsR_cons, intsR_app, intsR_tk, intsR_dr, intsR_st, intsR_rep, List.map_nil, List.map_cons, List.map_append, List.map_take, List.map_drop, List.map_set, List.map_replicate, List.nil_append, List.cons_append, List.append_assoc, eS_I_u8, eapi_Input, eapi_Output, eapi_Entry] at ehy2
  refine ee_seq_reg rfl (by simp [-chunk, -Cell.isSl, -callOp, callOp_eq, hT77, ehy2]; rfl) ?_
  refine ee_ret ?_
  obtain rfl := Option.some.inj hr
  simp [FinQ, -chunk, -Cell.isSl, -callOp, callOp_eq, hT77, ehy2]
def kp50 : Keep := fun i => if i = 4 then ⟨[0, 2, 7, 8, 18, 19, 20], [], []⟩ else ⟨[], [], []⟩
theorem w50 {T : Tab} (hT41 : T 41 = some G_Lslices_ContainsFunc_of__api_Entry_api_Entry__replace_enough_1) (hT66 : T 66 = some G_Ltx_Weight) (hT67 : T 67 = some G_Lbuild_Fee) (hT80 : T 80 = some G_Lfees_Rate) (a0 : (List Tapi_Entry)) (a1 : Tapi_Tx) (a2 : Int) (x : Bool) (hr : Lreplace_enough a0 a1 a2 = some x) : ∃ kp fl n, execFn tt T G kp fl n Tryd.f50 [.one (.slice .no (List.map eapi_Entry a0)), .agg ([.v (.int .u32 a1.1), .slice .no (List.map eapi_Input a1.2.1), .slice .no (List.map eapi_Output a1.2.2.1), .v (.int .u32 a1.2.2.2)]), .one (.v (.int .i64 a2))] = some (.one (.v (.bool x)), []) := by
  refine fnE (kp := kp50) (w := false) body50 ?_
  unfold c50
  rw [Tryd.ntmps50]
  unfold Lreplace_enough at hr
  refine ee_seq_reg rfl (by simp [-chunk, -Cell.isSl, -callOp, callOp_eq, ]; rfl) ?_
  obtain ⟨y13, hy13, hr⟩ := Option.bind_eq_some_iff.1 hr
  have ehy13 := G_Ltx_Weight_eq hy13
  try simp only [intsR_nil, intsR_cons, intsR_app, intsR_tk, intsR_dr, intsR_st, intsR_rep, List.map_nil, List.map_cons, List.map_append, List.map_take, List.map_drop, List.map_set, List.map_replicate, List.nil_append, List.cons_append, List.append_assoc, eS_I_u8, eapi_Input, eapi_Output, eapi_Entry] at ehy13
  refine ee_seq_reg rfl (by simp [-chunk, -Cell.isSl, -callOp, callOp_eq, hT66, ehy13]; rfl) ?_
  obtain ⟨y14, hy14, hr⟩ := Option.bind_eq_some_iff.1 hr
  have ehy14 := G_Lbuild_Fee_eq hy14
  try simp only [intsR_nil, intsR_cons, intsR_app, intsR_tk, intsR_dr, intsR_st, intsR_rep, List.map_nil, List.map_cons, List.map_append, List.map_take, List.map_drop, List.map_set, List.map_replicate, List.nil_append, List.cons_append, List.append_assoc, eS_I_u8, eapi_Input, eapi_Output, eapi_Entry] at ehy14
  refine ee_seq_reg rfl (by simp [-chunk, -Cell.isSl, -callOp, callOp_eq, hT67, ehy14]; rfl) ?_
  refine ee_assoc ?_
  refine ee_seq_reg rfl (by simp [-chunk, -Cell.isSl, -callOp, callOp_eq, ]; rfl) ?_
  refine ee_seq_block ?_
  refine ee_loop (kq := ⟨[0, 2, 7, 8, 18, 19, 20], [], []⟩) (H := fun (s : Int × Int) => match s with | (p7, p8) => (⟨([.one (.slice .no (List.map eapi_Entry a0))] ++ (und 1 ++ ([.one (.v (.int .i64 a2))] ++ (und 4 ++ ([.one (.v (.int .i64 y13)), .one (.v (.int .i64 p7))] ++ (und 9 ++ ([.one (.slice .no (List.map eapi_Entry a0)), .one (.v (.int .i64 (a0.length : Int))), .one (.v (.int .i64 p8))] ++ (und 21))))))) : List PV), ([] : Boxes)⟩ : ASt)) (by kernel_rfl) hr (by simp [und, List.replicate, ]) ?_
  rintro ⟨p7, p8⟩ x15r hr15
  simp only [Lreplace_enough_s1] at hr15
  unfold b50_1
  simp only [und, List.replicate, List.cons_append, List.nil_append]
  refine ee_seq_reg rfl (by simp [-chunk, -Cell.isSl, -callOp, callOp_eq, ]; rfl) ?_
  by_cases c16 : p8 < (a0.length : Int)
  · skip
    have c16N := c16
    try simp at c16N
    rw [if_pos] at hr15
    rotate_left
    · simp [c16, c16N]
    refine ee_seq_condT (by simp [bV, c16, c16N]) ?_
    refine ee_seq_skip ?_
    refine ee_seq_block ?_
    obtain ⟨x17, hx17, hr15⟩ := Option.bind_eq_some_iff.1 hr15
    obtain ⟨hx17a, hx17b⟩ := idx_some hx17
    have hx17c := getE_of hx17b
    refine ee_seq_reg rfl (by simp [-chunk, -Cell.isSl, -callOp, callOp_eq, hx17a, hx17b, hx17c, c16, c16N]; rfl) ?_
    refine ee_assoc ?_
    refine ee_seq_reg rfl (by simp [-chunk, -Cell.isSl, -callOp, callOp_eq, c16, c16N]; rfl) ?_
    by_cases c18 : p7 < x17.2
    · skip
      rw [if_pos] at hr15
      rotate_left
      · simp [c16, c16N, c18]
      refine ee_seq_condT (by simp [bV, c16, c16N, c18]) ?_
      refine ee_assoc ?_
      refine ee_seq_reg rfl (by simp [-chunk, -Cell.isSl, -callOp, callOp_eq, c16, c16N, c18]; rfl) ?_
      refine ee_seq_ret ?_
      obtain rfl := Option.some.inj hr15
      simp only [outOf, thenQ, QL, if_true, ite_true, reduceCtorEq, if_false]
      rintro rfl
      simp [FinQ, -chunk, -Cell.isSl, -callOp, callOp_eq, c16, c16N, c18]
    · skip
      rw [if_neg] at hr15
      rotate_left
      · simp [c16, c16N, c18]
      refine ee_seq_condF (by simp [bV, c16, c16N, c18]) ?_
      refine ee_seq_skip ?_
      refine ee_reg rfl (by simp [-chunk, -Cell.isSl, -callOp, callOp_eq, c16, c16N, c18]; rfl) ?_
      simp only [outOf, thenQ, QL, if_true, ite_true, reduceCtorEq, if_false]
      refine ee_reg rfl (by simp [-chunk, -Cell.isSl, -callOp, callOp_eq, c16, c16N, c18]; rfl) ?_
      obtain rfl := Option.some.inj hr15
      simp only [outOf, thenQ, QL, if_true, ite_true, reduceCtorEq, if_false]
      simp [und, List.replicate, Nat.add_assoc, c16, c16N, c18]
  · skip
    have c16N := c16
    try simp at c16N
    rw [if_neg] at hr15
    rotate_left
    · simp [c16, c16N]
    refine ee_seq_condF (by simp [bV, c16, c16N]) ?_
    refine ee_seq_exit ?_
    obtain ⟨r19, q19, rfl⟩ := Option.map_eq_some_iff.1 hr15
    simp only [outOf, thenQ, QL, if_true, ite_true, reduceCtorEq, if_false]
    rintro rfl
    try simp only [outOf, thenQ, QL, if_true, ite_true, reduceCtorEq, if_false]
    unfold Lreplace_enough_k1 at q19
    refine ee_assoc ?_
    refine ee_seq_reg rfl (by simp [-chunk, -Cell.isSl, -callOp, callOp_eq, c16, c16N]; rfl) ?_
    by_cases c20 : p7 < 0
    · skip
      rw [if_pos] at q19
      rotate_left
      · simp [c16, c16N, c20]
      refine ee_seq_condT (by simp [bV, c16, c16N, c20]) ?_
      refine ee_assoc ?_
      refine ee_seq_reg rfl (by simp [-chunk, -Cell.isSl, -callOp, callOp_eq, c16, c16N, c20]; rfl) ?_
      refine ee_seq_ret ?_
      obtain rfl := Option.some.inj q19
      simp [FinQ, -chunk, -Cell.isSl, -callOp, callOp_eq, c16, c16N, c20]
    · skip
      rw [if_neg] at q19
      rotate_left
      · simp [c16, c16N, c20]
      refine ee_seq_condF (by simp [bV, c16, c16N, c20]) ?_
      refine ee_seq_skip ?_
      obtain ⟨y21, hy21, q19⟩ := Option.bind_eq_some_iff.1 q19
      have ehy21 := G_Lfees_Rate_eq hy21
      try simp only [intsR_nil, intsR_cons, intsR_app, intsR_tk, intsR_dr, intsR_st, intsR_rep, List.map_nil, List.map_cons, List.map_append, List.map_take, List.map_drop, List.map_set, List.map_replicate, List.nil_append, List.cons_append, List.append_assoc, eS_I_u8, eapi_Input, eapi_Output, eapi_Entry] at ehy21
      refine ee_seq_reg rfl (by simp [-chunk, -Cell.isSl, -callOp, callOp_eq, hT80, ehy21, c16, c16N, c20]; rfl) ?_
      obtain ⟨y22, hy22, q19⟩ := Option.bind_eq_some_iff.1 q19
      have ehy22 := G_Lslices_ContainsFunc_of__api_Entry_api_Entry__replace_enough_1_eq hy22
      try simp only [intsR_nil, intsR_cons, intsR_app, intsR_tk, intsR_dr, intsR_st, intsR_rep, List.map_nil, List.map_cons, List.map_append, List.map_take, List.map_drop, List.map_set, List.map_replicate, List.nil_append, List.cons_append, List.append_assoc, eS_I_u8, eapi_Input, eapi_Output, eapi_Entry] at ehy22
      refine ee_seq_reg rfl (by simp [-chunk, -Cell.isSl, -callOp, callOp_eq, hT41, ehy22, c16, c16N, c20]; rfl) ?_
      refine ee_ret ?_
      obtain rfl := Option.some.inj q19
      simp [FinQ, -chunk, -Cell.isSl, -callOp, callOp_eq, hT41, ehy22, c16, c16N, c20]
def kp77_12 : Keep := fun i => if i = 2 then ⟨[0, 1, 7, 8], [], []⟩ else ⟨[], [], []⟩
theorem w77_12 {T : Tab} (hT47 : T 47 = some G_Lreplace_Accept_3) (a0 : (List Tapi_Entry)) (x : Int) (hr : Lslices_IndexFunc_of__api_Entry_api_Entry__replace_Accept_3 a0 = some x) : ∃ kp fl n, execFn tt T G kp fl n Tryd.f77 [.one (.slice .no (List.map eapi_Entry a0)), .fn 47] = some (.one (.v (.int .i64 x)), []) := by
  refine fnE (kp := kp77_12) (w := false) body77 ?_
  unfold c77
  rw [Tryd.ntmps77]
  unfold Lslices_IndexFunc_of__api_Entry_api_Entry__replace_Accept_3 at hr
  refine ee_seq_reg rfl (by simp [-chunk, -Cell.isSl, -callOp, callOp_eq, ]; rfl) ?_
  refine ee_assoc ?_
  refine ee_seq_reg rfl (by simp [-chunk, -Cell.isSl, -callOp, callOp_eq, ]; rfl) ?_
  refine ee_seq_block ?_
  refine ee_loop (kq := ⟨[0, 1, 7, 8], [], []⟩) (H := fun (s : Int) => match s with | p6 => (⟨([.one (.slice .no (List.map eapi_Entry a0)), .fn 47] ++ (und 5 ++ ([.one (.v (.int .i64 (a0.length : Int))), .one (.v (.int .i64 p6))] ++ (und 10))) : List PV), ([] : Boxes)⟩ : ASt)) (by kernel_rfl) hr (by simp [und, List.replicate, ]) ?_
  rintro p6 x11r hr11
  simp only [Lslices_IndexFunc_of__api_Entry_api_Entry__replace_Accept_3_s1] at hr11
  unfold b77_1
  simp only [und, List.replicate, List.cons_append, List.nil_append]
  refine ee_seq_reg rfl (by simp [-chunk, -Cell.isSl, -callOp, callOp_eq, ]; rfl) ?_
  by_cases c12 : p6 < (a0.length : Int)
  · skip
    have c12N := c12
    try simp at c12N
    rw [if_pos] at hr11
    rotate_left
    · simp [c12, c12N]
    refine ee_seq_condT (by simp [bV, c12, c12N]) ?_
    refine ee_seq_skip ?_
    refine ee_seq_block ?_
    refine ee_seq_reg rfl (by simp [-chunk, -Cell.isSl, -callOp, callOp_eq, c12, c12N]; rfl) ?_
    obtain ⟨x13, hx13, hr11⟩ := Option.bind_eq_some_iff.1 hr11
    obtain ⟨hx13a, hx13b⟩ := idx_some hx13
    have hx13c := getE_of hx13b
    obtain ⟨y14, hy14, hr11⟩ := Option.bind_eq_some_iff.1 hr11
    have ehy14 := G_Lreplace_Accept_3_eq hy14
    try simp only [intsR_nil, intsR_cons, intsR_app, intsR_tk, intsR_dr, intsR_st, intsR_rep, List.map_nil, List.map_cons, List.map_append, List.map_take, List.map_drop, List.map_set, List.map_replicate, List.nil_append, List.cons_append, List.append_assoc, eS_I_u8, eapi_Input, eapi_Output, eapi_Entry] at ehy14
    refine ee_seq_reg rfl (by simp [-chunk, -Cell.isSl, -callOp, callOp_eq, hx13a, hx13b, hx13c, hT47, ehy14, c12, c12N]; rfl) ?_
    by_cases c15 : y14 = true
    · skip
      rw [if_pos] at hr11
      rotate_left
      · simp [c12, c12N, c15]
      refine ee_condT (by simp [bV, c12, c12N, c15]) ?_
      refine ee_seq_reg rfl (by simp [-chunk, -Cell.isSl, -callOp, callOp_eq, c12, c12N, c15]; rfl) ?_
      refine ee_ret ?_
      obtain rfl := Option.some.inj hr11
      simp only [outOf, thenQ, QL, if_true, ite_true, reduceCtorEq, if_false]
      rintro rfl
      simp [FinQ, -chunk, -Cell.isSl, -callOp, callOp_eq, c12, c12N, c15]
    · skip
      rw [if_neg] at hr11
      rotate_left
      · simp [c12, c12N, c15]
      refine ee_condF (by simp [bV, c12, c12N, c15]) ?_
      refine ee_skip ?_
      simp only [outOf, thenQ, QL, if_true, ite_true, reduceCtorEq, if_false]
      refine ee_reg rfl (by simp [-chunk, -Cell.isSl, -callOp, callOp_eq, c12, c12N, c15]; rfl) ?_
      obtain rfl := Option.some.inj hr11
      simp only [outOf, thenQ, QL, if_true, ite_true, reduceCtorEq, if_false]
      simp [und, List.replicate, Nat.add_assoc, c12, c12N, c15]
  · skip
    have c12N := c12
    try simp at c12N
    rw [if_neg] at hr11
    rotate_left
    · simp [c12, c12N]
    refine ee_seq_condF (by simp [bV, c12, c12N]) ?_
    refine ee_seq_exit ?_
    obtain ⟨r16, q16, rfl⟩ := Option.map_eq_some_iff.1 hr11
    simp only [outOf, thenQ, QL, if_true, ite_true, reduceCtorEq, if_false]
    rintro rfl
    try simp only [outOf, thenQ, QL, if_true, ite_true, reduceCtorEq, if_false]
    unfold Lslices_IndexFunc_of__api_Entry_api_Entry__replace_Accept_3_k1 at q16
    refine ee_seq_reg rfl (by simp [-chunk, -Cell.isSl, -callOp, callOp_eq, c12, c12N]; rfl) ?_
    refine ee_ret ?_
    obtain rfl := Option.some.inj q16
    simp [FinQ, -chunk, -Cell.isSl, -callOp, callOp_eq, c12, c12N]
def kp41_13 : Keep := fun i => ⟨[], [], []⟩
theorem w41_13 {T : Tab} (hT77 : T 77 = some G_Lslices_IndexFunc_of__api_Entry_api_Entry__replace_Accept_3) (a0 : (List Tapi_Entry)) (x : Bool) (hr : Lslices_ContainsFunc_of__api_Entry_api_Entry__replace_Accept_3 a0 = some x) : ∃ kp fl n, execFn tt T G kp fl n Tryd.f41 [.one (.slice .no (List.map eapi_Entry a0)), .fn 47] = some (.one (.v (.bool x)), []) := by
  refine fnE (kp := kp41_13) (w := false) body41 ?_
  unfold c41
  rw [Tryd.ntmps41]
  unfold Lslices_ContainsFunc_of__api_Entry_api_Entry__replace_Accept_3 at hr
  refine ee_seq_reg rfl (by simp [-chunk, -Cell.isSl, -callOp, callOp_eq, ]; rfl) ?_
  obtain ⟨y2, hy2, hr⟩ := Option.bind_eq_some_iff.1 hr
  have ehy2 := G_Lslices_IndexFunc_of__api_Entry_api_Entry__replace_Accept_3_eq hy2
  try simp only [intsR_nil, intsR_cons, intsR_app, intsR_tk, intsR_dr, intsR_st, intsR_rep, List.map_nil, List.map_cons, List.map_append, List.map_take, List.map_drop, List.map_set, List.map_replicate, List.nil_append, List.cons_append, List.append_assoc, eS_I_u8, eapi_Input, eapi_Output, eapi_Entry] at ehy2
  refine ee_seq_reg rfl (by simp [-chunk, -Cell.isSl, -callOp, callOp_eq, hT77, ehy2]; rfl) ?_
  refine ee_ret ?_
  obtain rfl := Option.some.inj hr
  simp [FinQ, -chunk, -Cell.isSl, -callOp, callOp_eq, hT77, ehy2]
def kp40_14 : Keep := fun i => ⟨[], [], []⟩
theorem w40_14 {T : Tab} (hT41 : T 41 = some G_Lslices_ContainsFunc_of__api_Entry_api_Entry__replace_Accept_3) (a0 : (List Tapi_Entry)) (x : Bool) (hr : Lreplace_Accept_1__replace_Accept_3_p a0 = some x) : ∃ kp fl n, execFn tt T G kp fl n Tryd.f40 [.fn 47, .io ([.slice .no (List.map eapi_Entry a0)])] = some (.one (.v (.bool x)), [[.slice .no (List.map eapi_Entry a0)]]) := by
  refine fnE (kp := kp40_14) (w := false) body40 ?_
  unfold c40
  rw [Tryd.ntmps40]
  unfold Lreplace_Accept_1__replace_Accept_3_p at hr
  refine ee_seq_reg rfl (by simp [-chunk, -Cell.isSl, -callOp, callOp_eq, ]; rfl) ?_
  obtain ⟨y2, hy2, hr⟩ := Option.bind_eq_some_iff.1 hr
  have ehy2 := G_Lslices_ContainsFunc_of__api_Entry_api_Entry__replace_Accept_3_eq hy2
  try simp only [intsR_nil, intsR_cons, intsR_app, intsR_tk, intsR_dr, intsR_st, intsR_rep, List.map_nil, List.map_cons, List.map_append, List.map_take, List.map_drop, List.map_set, List.map_replicate, List.nil_append, List.cons_append, List.append_assoc, eS_I_u8, eapi_Input, eapi_Output, eapi_Entry] at ehy2
  refine ee_seq_reg rfl (by simp [-chunk, -Cell.isSl, -callOp, callOp_eq, hT41, ehy2]; rfl) ?_
  refine ee_ret ?_
  obtain rfl := Option.some.inj hr
  simp [FinQ, -chunk, -Cell.isSl, -callOp, callOp_eq, hT41, ehy2]
def kp48_15 : Keep := fun i => ⟨[], [], []⟩
theorem w48_15 {T : Tab} (hT13 : T 13 = some G_Lreplace_Conflict) (a0 : Tapi_Entry) (a1 : Tapi_Tx) (x : Bool) (hr : Lreplace_Accept_4__r a0 a1 = some x) : ∃ kp fl n, execFn tt T G kp fl n Tryd.f48 [.agg ([.v (.int .u32 a0.1.1), .slice .no (List.map eapi_Input a0.1.2.1), .slice .no (List.map eapi_Output a0.1.2.2.1), .v (.int .u32 a0.1.2.2.2), .v (.int .i64 a0.2)]), .ref ([.v (.int .u32 a1.1), .slice .no (List.map eapi_Input a1.2.1), .slice .no (List.map eapi_Output a1.2.2.1), .v (.int .u32 a1.2.2.2)])] = some (.one (.v (.bool x)), []) := by
  refine fnE (kp := kp48_15) (w := false) body48 ?_
  unfold c48
  rw [Tryd.ntmps48]
  unfold Lreplace_Accept_4__r at hr
  refine ee_seq_reg rfl (by simp [-chunk, -Cell.isSl, -callOp, callOp_eq, ]; rfl) ?_
  obtain ⟨y2, hy2, hr⟩ := Option.bind_eq_some_iff.1 hr
  have ehy2 := G_Lreplace_Conflict_eq hy2
  try simp only [intsR_nil, intsR_cons, intsR_app, intsR_tk, intsR_dr, intsR_st, intsR_rep, List.map_nil, List.map_cons, List.map_append, List.map_take, List.map_drop, List.map_set, List.map_replicate, List.nil_append, List.cons_append, List.append_assoc, eS_I_u8, eapi_Input, eapi_Output, eapi_Entry] at ehy2
  refine ee_seq_reg rfl (by simp [-chunk, -Cell.isSl, -callOp, callOp_eq, hT13, ehy2]; rfl) ?_
  refine ee_ret ?_
  obtain rfl := Option.some.inj hr
  simp [FinQ, -chunk, -Cell.isSl, -callOp, callOp_eq, hT13, ehy2]
def kp77_16 : Keep := fun i => if i = 2 then ⟨[0, 1, 7, 8], [], []⟩ else ⟨[], [], []⟩
theorem w77_16 {T : Tab} (hT48 : T 48 = some G_Lreplace_Accept_4__r) (a0 : (List Tapi_Entry)) (a1 : Tapi_Tx) (x : Int) (hr : Lslices_IndexFunc_of__api_Entry_api_Entry__replace_Accept_4 a0 a1 = some x) : ∃ kp fl n, execFn tt T G kp fl n Tryd.f77 [.one (.slice .no (List.map eapi_Entry a0)), .clo 48 [.ref ([.v (.int .u32 a1.1), .slice .no (List.map eapi_Input a1.2.1), .slice .no (List.map eapi_Output a1.2.2.1), .v (.int .u32 a1.2.2.2)])]] = some (.one (.v (.int .i64 x)), []) := by
  refine fnE (kp := kp77_16) (w := false) body77 ?_
  unfold c77
  rw [Tryd.ntmps77]
  unfold Lslices_IndexFunc_of__api_Entry_api_Entry__replace_Accept_4 at hr
  refine ee_seq_reg rfl (by simp [-chunk, -Cell.isSl, -callOp, callOp_eq, ]; rfl) ?_
  refine ee_assoc ?_
  refine ee_seq_reg rfl (by simp [-chunk, -Cell.isSl, -callOp, callOp_eq, ]; rfl) ?_
  refine ee_seq_block ?_
  refine ee_loop (kq := ⟨[0, 1, 7, 8], [], []⟩) (H := fun (s : Int) => match s with | p6 => (⟨([.one (.slice .no (List.map eapi_Entry a0)), .clo 48 [.ref ([.v (.int .u32 a1.1), .slice .no (List.map eapi_Input a1.2.1), .slice .no (List.map eapi_Output a1.2.2.1), .v (.int .u32 a1.2.2.2)])]] ++ (und 5 ++ ([.one (.v (.int .i64 (a0.length : Int))), .one (.v (.int .i64 p6))] ++ (und 10))) : List PV), ([] : Boxes)⟩ : ASt)) (by kernel_rfl) hr (by simp [und, List.replicate, ]) ?_
  rintro p6 x11r hr11
  simp only [Lslices_IndexFunc_of__api_Entry_api_Entry__replace_Accept_4_s1] at hr11
  unfold b77_1
  simp only [und, List.replicate, List.cons_append, List.nil_append]
  refine ee_seq_reg rfl (by simp [-chunk, -Cell.isSl, -callOp, callOp_eq, ]; rfl) ?_
  by_cases c12 : p6 < (a0.length : Int)
  · skip
    have c12N := c12
    try simp at c12N
    rw [if_pos] at hr11
    rotate_left
    · simp [c12, c12N]
    refine ee_seq_condT (by simp [bV, c12, c12N]) ?_
    refine ee_seq_skip ?_
    refine ee_seq_block ?_
    refine ee_seq_reg rfl (by simp [-chunk, -Cell.isSl, -callOp, callOp_eq, c12, c12N]; rfl) ?_
    obtain ⟨x13, hx13, hr11⟩ := Option.bind_eq_some_iff.1 hr11
    obtain ⟨hx13a, hx13b⟩ := idx_some hx13
    have hx13c := getE_of hx13b
    obtain ⟨y14, hy14, hr11⟩ := Option.bind_eq_some_iff.1 hr11
    have ehy14 := G_Lreplace_Accept_4__r_eq hy14
    try simp only [intsR_nil, intsR_cons, intsR_app, intsR_tk, intsR_dr, intsR_st, intsR_rep, List.map_nil, List.map_cons, List.map_append, List.map_take, List.map_drop, List.map_set, List.map_replicate, List.nil_append, List.cons_append, List.append_assoc, eS_I_u8, eapi_Input, eapi_Output, eapi_Entry] at ehy14
    refine ee_seq_reg rfl (by simp [-chunk, -Cell.isSl, -callOp, callOp_eq, hx13a, hx13b, hx13c, hT48, ehy14, c12, c12N]; rfl) ?_
    by_cases c15 : y14 = true
    · skip
      rw [if_pos] at hr11
      rotate_left
      · simp [c12, c12N, c15]
      refine ee_condT (by simp [bV, c12, c12N, c15]) ?_
      refine ee_seq_reg rfl (by simp [-chunk, -Cell.isSl, -callOp, callOp_eq, c12, c12N, c15]; rfl) ?_
      refine ee_ret ?_
      obtain rfl := Option.some.inj hr11
      simp only [outOf, thenQ, QL, if_true, ite_true, reduceCtorEq, if_false]
      rintro rfl
      simp [FinQ, -chunk, -Cell.isSl, -callOp, callOp_eq, c12, c12N, c15]
    · skip
      rw [if_neg] at hr11
      rotate_left
      · simp [c12, c12N, c15]
      refine ee_condF (by simp [bV, c12, c12N, c15]) ?_
      refine ee_skip ?_
      simp only [outOf, thenQ, QL, if_true, ite_true, reduceCtorEq, if_false]
      refine ee_reg rfl (by simp [-chunk, -Cell.isSl, -callOp, callOp_eq, c12, c12N, c15]; rfl) ?_
      obtain rfl := Option.some.inj hr11
      simp only [outOf, thenQ, QL, if_true, ite_true, reduceCtorEq, if_false]
      simp [und, List.replicate, Nat.add_assoc, c12, c12N, c15]
  · skip
    have c12N := c12
    try simp at c12N
    rw [if_neg] at hr11
    rotate_left
    · simp [c12, c12N]
    refine ee_seq_condF (by simp [bV, c12, c12N]) ?_
    refine ee_seq_exit ?_
    obtain ⟨r16, q16, rfl⟩ := Option.map_eq_some_iff.1 hr11
    simp only [outOf, thenQ, QL, if_true, ite_true, reduceCtorEq, if_false]
    rintro rfl
    try simp only [outOf, thenQ, QL, if_true, ite_true, reduceCtorEq, if_false]
    unfold Lslices_IndexFunc_of__api_Entry_api_Entry__replace_Accept_4_k1 at q16
    refine ee_seq_reg rfl (by simp [-chunk, -Cell.isSl, -callOp, callOp_eq, c12, c12N]; rfl) ?_
    refine ee_ret ?_
    obtain rfl := Option.some.inj q16
    simp [FinQ, -chunk, -Cell.isSl, -callOp, callOp_eq, c12, c12N]
def kp41_17 : Keep := fun i => ⟨[], [], []⟩
theorem w41_17 {T : Tab} (hT77 : T 77 = some G_Lslices_IndexFunc_of__api_Entry_api_Entry__replace_Accept_4) (a0 : (List Tapi_Entry)) (a1 : Tapi_Tx) (x : Bool) (hr : Lslices_ContainsFunc_of__api_Entry_api_Entry__replace_Accept_4 a0 a1 = some x) : ∃ kp fl n, execFn tt T G kp fl n Tryd.f41 [.one (.slice .no (List.map eapi_Entry a0)), .clo 48 [.ref ([.v (.int .u32 a1.1), .slice .no (List.map eapi_Input a1.2.1), .slice .no (List.map eapi_Output a1.2.2.1), .v (.int .u32 a1.2.2.2)])]] = some (.one (.v (.bool x)), []) := by
  refine fnE (kp := kp41_17) (w := false) body41 ?_
  unfold c41
  rw [Tryd.ntmps41]
  unfold Lslices_ContainsFunc_of__api_Entry_api_Entry__replace_Accept_4 at hr
  refine ee_seq_reg rfl (by simp [-chunk, -Cell.isSl, -callOp, callOp_eq, ]; rfl) ?_
  obtain ⟨y2, hy2, hr⟩ := Option.bind_eq_some_iff.1 hr
  have ehy2 := G_Lslices_IndexFunc_of__api_Entry_api_Entry__replace_Accept_4_eq hy2
  try simp only [intsR_nil, intsR_cons, intsR_app, intsR_tk, intsR_dr, intsR_st, intsR_rep, List.map_nil, List.map_cons, List.map_append, List.map_take, List.map_drop, List.map_set, List.map_replicate, List.nil_append, List.cons_append, List.append_assoc, eS_I_u8, eapi_Input, eapi_Output, eapi_Entry] at ehy2
  refine ee_seq_reg rfl (by simp [-chunk, -Cell.isSl, -callOp, callOp_eq, hT77, ehy2]; rfl) ?_
  refine ee_ret ?_
  obtain rfl := Option.some.inj hr
  simp [FinQ, -chunk, -Cell.isSl, -callOp, callOp_eq, hT77, ehy2]
def kp40_18 : Keep := fun i => ⟨[], [], []⟩
theorem w40_18 {T : Tab} (hT41 : T 41 = some G_Lslices_ContainsFunc_of__api_Entry_api_Entry__replace_Accept_4) (a0 : Tapi_Tx) (a1 : (List Tapi_Entry)) (x : Bool) (hr : Lreplace_Accept_1__replace_Accept_4_p a0 a1 = some x) : ∃ kp fl n, execFn tt T G kp fl n Tryd.f40 [.clo 48 [.ref ([.v (.int .u32 a0.1), .slice .no (List.map eapi_Input a0.2.1), .slice .no (List.map eapi_Output a0.2.2.1), .v (.int .u32 a0.2.2.2)])], .io ([.slice .no (List.map eapi_Entry a1)])] = some (.one (.v (.bool x)), [[.slice .no (List.map eapi_Entry a1)]]) := by
  refine fnE (kp := kp40_18) (w := false) body40 ?_
  unfold c40
  rw [Tryd.ntmps40]
  unfold Lreplace_Accept_1__replace_Accept_4_p at hr
  refine ee_seq_reg rfl (by simp [-chunk, -Cell.isSl, -callOp, callOp_eq, ]; rfl) ?_
  obtain ⟨y2, hy2, hr⟩ := Option.bind_eq_some_iff.1 hr
  have ehy2 := G_Lslices_ContainsFunc_of__api_Entry_api_Entry__replace_Accept_4_eq hy2
  try simp only [intsR_nil, intsR_cons, intsR_app, intsR_tk, intsR_dr, intsR_st, intsR_rep, List.map_nil, List.map_cons, List.map_append, List.map_take, List.map_drop, List.map_set, List.map_replicate, List.nil_append, List.cons_append, List.append_assoc, eS_I_u8, eapi_Input, eapi_Output, eapi_Entry] at ehy2
  refine ee_seq_reg rfl (by simp [-chunk, -Cell.isSl, -callOp, callOp_eq, hT41, ehy2]; rfl) ?_
  refine ee_ret ?_
  obtain rfl := Option.some.inj hr
  simp [FinQ, -chunk, -Cell.isSl, -callOp, callOp_eq, hT41, ehy2]
def kp77_19 : Keep := fun i => if i = 2 then ⟨[0, 1, 7, 8], [], []⟩ else ⟨[], [], []⟩
theorem w77_19 {T : Tab} (hT49 : T 49 = some G_Lreplace_Accept_5) (a0 : (List Tapi_Entry)) (x : Int) (hr : Lslices_IndexFunc_of__api_Entry_api_Entry__replace_Accept_5 a0 = some x) : ∃ kp fl n, execFn tt T G kp fl n Tryd.f77 [.one (.slice .no (List.map eapi_Entry a0)), .fn 49] = some (.one (.v (.int .i64 x)), []) := by
  refine fnE (kp := kp77_19) (w := false) body77 ?_
  unfold c77
  rw [Tryd.ntmps77]
  unfold Lslices_IndexFunc_of__api_Entry_api_Entry__replace_Accept_5 at hr
  refine ee_seq_reg rfl (by simp [-chunk, -Cell.isSl, -callOp, callOp_eq, ]; rfl) ?_
  refine ee_assoc ?_
  refine ee_seq_reg rfl (by simp [-chunk, -Cell.isSl, -callOp, callOp_eq, ]; rfl) ?_
  refine ee_seq_block ?_
  refine ee_loop (kq := ⟨[0, 1, 7, 8], [], []⟩) (H := fun (s : Int) => match s with | p6 => (⟨([.one (.slice .no (List.map eapi_Entry a0)), .fn 49] ++ (und 5 ++ ([.one (.v (.int .i64 (a0.length : Int))), .one (.v (.int .i64 p6))] ++ (und 10))) : List PV), ([] : Boxes)⟩ : ASt)) (by kernel_rfl) hr (by simp [und, List.replicate, ]) ?_
  rintro p6 x11r hr11
  simp only [Lslices_IndexFunc_of__api_Entry_api_Entry__replace_Accept_5_s1] at hr11
  unfold b77_1
  simp only [und, List.replicate, List.cons_append, List.nil_append]
  refine ee_seq_reg rfl (by simp [-chunk, -Cell.isSl, -callOp, callOp_eq, ]; rfl) ?_
  by_cases c12 : p6 < (a0.length : Int)
  · skip
    have c12N := c12
    try simp at c12N
    rw [if_pos] at hr11
    rotate_left
    · simp [c12, c12N]
    refine ee_seq_condT (by simp [bV, c12, c12N]) ?_
    refine ee_seq_skip ?_
    refine ee_seq_block ?_
    refine ee_seq_reg rfl (by simp [-chunk, -Cell.isSl, -callOp, callOp_eq, c12, c12N]; rfl) ?_
    obtain ⟨x13, hx13, hr11⟩ := Option.bind_eq_some_iff.1 hr11
    obtain ⟨hx13a, hx13b⟩ := idx_some hx13
    have hx13c := getE_of hx13b
    obtain ⟨y14, hy14, hr11⟩ := Option.bind_eq_some_iff.1 hr11
    have ehy14 := G_Lreplace_Accept_5_eq hy14
    try simp only [intsR_nil, intsR_cons, intsR_app, intsR_tk, intsR_dr, intsR_st, intsR_rep, List.map_nil, List.map_cons, List.map_append, List.map_take, List.map_drop, List.map_set, List.map_replicate, List.nil_append, List.cons_append, List.append_assoc, eS_I_u8, eapi_Input, eapi_Output, eapi_Entry] at ehy14
    refine ee_seq_reg rfl (by simp [-chunk, -Cell.isSl, -callOp, callOp_eq, hx13a, hx13b, hx13c, hT49, ehy14, c12, c12N]; rfl) ?_
    by_cases c15 : y14 = true
    · skip
      rw [if_pos] at hr11
      rotate_left
      · simp [c12, c12N, c15]
      refine ee_condT (by simp [bV, c12, c12N, c15]) ?_
      refine ee_seq_reg rfl (by simp [-chunk, -Cell.isSl, -callOp, callOp_eq, c12, c12N, c15]; rfl) ?_
      refine ee_ret ?_
      obtain rfl := Option.some.inj hr11
      simp only [outOf, thenQ, QL, if_true, ite_true, reduceCtorEq, if_false]
      rintro rfl
      simp [FinQ, -chunk, -Cell.isSl, -callOp, callOp_eq, c12, c12N, c15]
    · skip
      rw [if_neg] at hr11
      rotate_left
      · simp [c12, c12N, c15]
      refine ee_condF (by simp [bV, c12, c12N, c15]) ?_
      refine ee_skip ?_
      simp only [outOf, thenQ, QL, if_true, ite_true, reduceCtorEq, if_false]
      refine ee_reg rfl (by simp [-chunk, -Cell.isSl, -callOp, callOp_eq, c12, c12N, c15]; rfl) ?_
      obtain rfl := Option.some.inj hr11
      simp only [outOf, thenQ, QL, if_true, ite_true, reduceCtorEq, if_false]
      simp [und, List.replicate, Nat.add_assoc, c12, c12N, c15]
  · skip
    have c12N := c12
    try simp at c12N
    rw [if_neg] at hr11
    rotate_left
    · simp [c12, c12N]
    refine ee_seq_condF (by simp [bV, c12, c12N]) ?_
    refine ee_seq_exit ?_
    obtain ⟨r16, q16, rfl⟩ := Option.map_eq_some_iff.1 hr11
    simp only [outOf, thenQ, QL, if_true, ite_true, reduceCtorEq, if_false]
    rintro rfl
    try simp only [outOf, thenQ, QL, if_true, ite_true, reduceCtorEq, if_false]
    unfold Lslices_IndexFunc_of__api_Entry_api_Entry__replace_Accept_5_k1 at q16
    refine ee_seq_reg rfl (by simp [-chunk, -Cell.isSl, -callOp, callOp_eq, c12, c12N]; rfl) ?_
    refine ee_ret ?_
    obtain rfl := Option.some.inj q16
    simp [FinQ, -chunk, -Cell.isSl, -callOp, callOp_eq, c12, c12N]
def kp41_20 : Keep := fun i => ⟨[], [], []⟩
theorem w41_20 {T : Tab} (hT77 : T 77 = some G_Lslices_IndexFunc_of__api_Entry_api_Entry__replace_Accept_5) (a0 : (List Tapi_Entry)) (x : Bool) (hr : Lslices_ContainsFunc_of__api_Entry_api_Entry__replace_Accept_5 a0 = some x) : ∃ kp fl n, execFn tt T G kp fl n Tryd.f41 [.one (.slice .no (List.map eapi_Entry a0)), .fn 49] = some (.one (.v (.bool x)), []) := by
  refine fnE (kp := kp41_20) (w := false) body41 ?_
  unfold c41
  rw [Tryd.ntmps41]
  unfold Lslices_ContainsFunc_of__api_Entry_api_Entry__replace_Accept_5 at hr
  refine ee_seq_reg rfl (by simp [-chunk, -Cell.isSl, -callOp, callOp_eq, ]; rfl) ?_
  obtain ⟨y2, hy2, hr⟩ := Option.bind_eq_some_iff.1 hr
  have ehy2 := G_Lslices_IndexFunc_of__api_Entry_api_Entry__replace_Accept_5_eq hy2
  try simp only [intsR_nil, intsR_cons, intsR_app, intsR_tk, intsR_dr, intsR_st, intsR_rep, List.map_nil, List.map_cons, List.map_append, List.map_take, List.map_drop, List.map_set, List.map_replicate, List.nil_append, List.cons_append, List.append_assoc, eS_I_u8, eapi_Input, eapi_Output, eapi_Entry] at ehy2
  refine ee_seq_reg rfl (by simp [-chunk, -Cell.isSl, -callOp, callOp_eq, hT77, ehy2]; rfl) ?_
  refine ee_ret ?_
  obtain rfl := Option.some.inj hr
  simp [FinQ, -chunk, -Cell.isSl, -callOp, callOp_eq, hT77, ehy2]
def kp40_21 : Keep := fun i => ⟨[], [], []⟩
theorem w40_21 {T : Tab} (hT41 : T 41 = some G_Lslices_ContainsFunc_of__api_Entry_api_Entry__replace_Accept_5) (a0 : (List Tapi_Entry)) (x : Bool) (hr : Lreplace_Accept_1__replace_Accept_5_p a0 = some x) : ∃ kp fl n, execFn tt T G kp fl n Tryd.f40 [.fn 49, .io ([.slice .no (List.map eapi_Entry a0)])] = some (.one (.v (.bool x)), [[.slice .no (List.map eapi_Entry a0)]]) := by
  refine fnE (kp := kp40_21) (w := false) body40 ?_
  unfold c40
  rw [Tryd.ntmps40]
  unfold Lreplace_Accept_1__replace_Accept_5_p at hr
  refine ee_seq_reg rfl (by simp [-chunk, -Cell.isSl, -callOp, callOp_eq, ]; rfl) ?_
  obtain ⟨y2, hy2, hr⟩ := Option.bind_eq_some_iff.1 hr
  have ehy2 := G_Lslices_ContainsFunc_of__api_Entry_api_Entry__replace_Accept_5_eq hy2
  try simp only [intsR_nil, intsR_cons, intsR_app, intsR_tk, intsR_dr, intsR_st, intsR_rep, List.map_nil, List.map_cons, List.map_append, List.map_take, List.map_drop, List.map_set, List.map_replicate, List.nil_append, List.cons_append, List.append_assoc, eS_I_u8, eapi_Input, eapi_Output, eapi_Entry] at ehy2
  refine ee_seq_reg rfl (by simp [-chunk, -Cell.isSl, -callOp, callOp_eq, hT41, ehy2]; rfl) ?_
  refine ee_ret ?_
  obtain rfl := Option.some.inj hr
  simp [FinQ, -chunk, -Cell.isSl, -callOp, callOp_eq, hT41, ehy2]
def kp44_22 : Keep := fun i => ⟨[], [], []⟩
theorem w44_22 {T : Tab} (a0 : Tapi_Input) (a1 : (Arr 32)) (x : Bool) (hr : Lreplace_Accept_2_1__r a0 a1 = some x) : ∃ kp fl n, execFn tt T G kp fl n Tryd.f44 [.agg ((arC .u8 a0.1.1) ++ ((.v (.int .u32 a0.1.2)) :: ((.v (.int .u32 a0.2.1)) :: ((.slice .no (List.map eS_I_u8 a0.2.2)) :: [])))), .ref (arC .u8 a1)] = some (.one (.v (.bool x)), []) := by
  refine fnE (kp := kp44_22) (w := false) body44 ?_
  unfold c44
  rw [Tryd.ntmps44]
  unfold Lreplace_Accept_2_1__r at hr
  refine ee_seq_reg rfl (by simp [-chunk, -Cell.isSl, -callOp, callOp_eq, ]; rfl) ?_
  refine ee_seq_reg rfl (by simp [-chunk, -Cell.isSl, -callOp, callOp_eq, ]; rfl) ?_
  refine ee_ret ?_
  obtain rfl := Option.some.inj hr
  simp [FinQ, -chunk, -Cell.isSl, -callOp, callOp_eq, ]
def kp73_23 : Keep := fun i => if i = 2 then ⟨[0, 1, 7, 8], [], []⟩ else ⟨[], [], []⟩
theorem w73_23 {T : Tab} (hT44 : T 44 = some G_Lreplace_Accept_2_1__r) (a0 : (List Tapi_Input)) (a1 : (Arr 32)) (x : Int) (hr : Lslices_IndexFunc_of__api_Input_api_Input__replace_Accept_2_1 a0 a1 = some x) : ∃ kp fl n, execFn tt T G kp fl n Tryd.f73 [.one (.slice .no (List.map eapi_Input a0)), .clo 44 [.ref (arC .u8 a1)]] = some (.one (.v (.int .i64 x)), []) := by
  refine fnE (kp := kp73_23) (w := false) body73 ?_
  unfold c73
  rw [Tryd.ntmps73]
  unfold Lslices_IndexFunc_of__api_Input_api_Input__replace_Accept_2_1 at hr
  refine ee_seq_reg rfl (by simp [-chunk, -Cell.isSl, -callOp, callOp_eq, ]; rfl) ?_
  refine ee_assoc ?_
  refine ee_seq_reg rfl (by simp [-chunk, -Cell.isSl, -callOp, callOp_eq, ]; rfl) ?_
  refine ee_seq_block ?_
  refine ee_loop (kq := ⟨[0, 1, 7, 8], [], []⟩) (H := fun (s : Int) => match s with | p6 => (⟨([.one (.slice .no (List.map eapi_Input a0)), .clo 44 [.ref (arC .u8 a1)]] ++ (und 5 ++ ([.one (.v (.int .i64 (a0.length : Int))), .one (.v (.int .i64 p6))] ++ (und 10))) : List PV), ([] : Boxes)⟩ : ASt)) (by kernel_rfl) hr (by simp [und, List.replicate, ]) ?_
  rintro p6 x11r hr11
  simp only [Lslices_IndexFunc_of__api_Input_api_Input__replace_Accept_2_1_s1] at hr11
  unfold b73_1
  simp only [und, List.replicate, List.cons_append, List.nil_append]
  refine ee_seq_reg rfl (by simp [-chunk, -Cell.isSl, -callOp, callOp_eq, ]; rfl) ?_
  by_cases c12 : p6 < (a0.length : Int)
  · skip
    have c12N := c12
    try simp at c12N
    rw [if_pos] at hr11
    rotate_left
    · simp [c12, c12N]
    refine ee_seq_condT (by simp [bV, c12, c12N]) ?_
    refine ee_seq_skip ?_
    refine ee_seq_block ?_
    refine ee_seq_reg rfl (by simp [-chunk, -Cell.isSl, -callOp, callOp_eq, c12, c12N]; rfl) ?_
    obtain ⟨x13, hx13, hr11⟩ := Option.bind_eq_some_iff.1 hr11
    obtain ⟨hx13a, hx13b⟩ := idx_some hx13
    have hx13c := getE_of hx13b
    obtain ⟨y14, hy14, hr11⟩ := Option.bind_eq_some_iff.1 hr11
    have ehy14 := G_Lreplace_Accept_2_1__r_eq hy14
    try simp only [intsR_nil, intsR_cons, intsR_app, intsR_tk, intsR_dr, intsR_st, intsR_rep, List.map_nil, List.map_cons, List.map_append, List.map_take, List.map_drop, List.map_set, List.map_replicate, List.nil_append, List.cons_append, List.append_assoc, eS_I_u8, eapi_Input, eapi_Output, eapi_Entry] at ehy14
    refine ee_seq_reg rfl (by simp [-chunk, -Cell.isSl, -callOp, callOp_eq, hx13a, hx13b, hx13c, hT44, ehy14, c12, c12N]; rfl) ?_
    by_cases c15 : y14 = true
    · skip
      rw [if_pos] at hr11
      rotate_left
      · simp [c12, c12N, c15]
      refine ee_condT (by simp [bV, c12, c12N, c15]) ?_
      refine ee_seq_reg rfl (by simp [-chunk, -Cell.isSl, -callOp, callOp_eq, c12, c12N, c15]; rfl) ?_
      refine ee_ret ?_
      obtain rfl := Option.some.inj hr11
      simp only [outOf, thenQ, QL, if_true, ite_true, reduceCtorEq, if_false]
      rintro rfl
      simp [FinQ, -chunk, -Cell.isSl, -callOp, callOp_eq, c12, c12N, c15]
    · skip
      rw [if_neg] at hr11
      rotate_left
      · simp [c12, c12N, c15]
      refine ee_condF (by simp [bV, c12, c12N, c15]) ?_
      refine ee_skip ?_
      simp only [outOf, thenQ, QL, if_true, ite_true, reduceCtorEq, if_false]
      refine ee_reg rfl (by simp [-chunk, -Cell.isSl, -callOp, callOp_eq, c12, c12N, c15]; rfl) ?_
      obtain rfl := Option.some.inj hr11
      simp only [outOf, thenQ, QL, if_true, ite_true, reduceCtorEq, if_false]
      simp [und, List.replicate, Nat.add_assoc, c12, c12N, c15]
  · skip
    have c12N := c12
    try simp at c12N
    rw [if_neg] at hr11
    rotate_left
    · simp [c12, c12N]
    refine ee_seq_condF (by simp [bV, c12, c12N]) ?_
    refine ee_seq_exit ?_
    obtain ⟨r16, q16, rfl⟩ := Option.map_eq_some_iff.1 hr11
    simp only [outOf, thenQ, QL, if_true, ite_true, reduceCtorEq, if_false]
    rintro rfl
    try simp only [outOf, thenQ, QL, if_true, ite_true, reduceCtorEq, if_false]
    unfold Lslices_IndexFunc_of__api_Input_api_Input__replace_Accept_2_1_k1 at q16
    refine ee_seq_reg rfl (by simp [-chunk, -Cell.isSl, -callOp, callOp_eq, c12, c12N]; rfl) ?_
    refine ee_ret ?_
    obtain rfl := Option.some.inj q16
    simp [FinQ, -chunk, -Cell.isSl, -callOp, callOp_eq, c12, c12N]
def kp33_24 : Keep := fun i => ⟨[], [], []⟩
theorem w33_24 {T : Tab} (hT73 : T 73 = some G_Lslices_IndexFunc_of__api_Input_api_Input__replace_Accept_2_1) (a0 : (List Tapi_Input)) (a1 : (Arr 32)) (x : Bool) (hr : Lslices_ContainsFunc_of__api_Input_api_Input__replace_Accept_2_1 a0 a1 = some x) : ∃ kp fl n, execFn tt T G kp fl n Tryd.f33 [.one (.slice .no (List.map eapi_Input a0)), .clo 44 [.ref (arC .u8 a1)]] = some (.one (.v (.bool x)), []) := by
  refine fnE (kp := kp33_24) (w := false) body33 ?_
  unfold c33
  rw [Tryd.ntmps33]
  unfold Lslices_ContainsFunc_of__api_Input_api_Input__replace_Accept_2_1 at hr
  refine ee_seq_reg rfl (by simp [-chunk, -Cell.isSl, -callOp, callOp_eq, ]; rfl) ?_
  obtain ⟨y2, hy2, hr⟩ := Option.bind_eq_some_iff.1 hr
  have ehy2 := G_Lslices_IndexFunc_of__api_Input_api_Input__replace_Accept_2_1_eq hy2
  try simp only [intsR_nil, intsR_cons, intsR_app, intsR_tk, intsR_dr, intsR_st, intsR_rep, List.map_nil, List.map_cons, List.map_append, List.map_take, List.map_drop, List.map_set, List.map_replicate, List.nil_append, List.cons_append, List.append_assoc, eS_I_u8, eapi_Input, eapi_Output, eapi_Entry] at ehy2
  refine ee_seq_reg rfl (by simp [-chunk, -Cell.isSl, -callOp, callOp_eq, hT73, ehy2]; rfl) ?_
  refine ee_ret ?_
  obtain rfl := Option.some.inj hr
  simp [FinQ, -chunk, -Cell.isSl, -callOp, callOp_eq, hT73, ehy2]
def kp42_25 : Keep := fun i => ⟨[], [], []⟩
theorem w42_25 {T : Tab} (hT33 : T 33 = some G_Lslices_ContainsFunc_of__api_Input_api_Input__replace_Accept_2_1) (hT43 : T 43 = some G_Ltx_ID) (a0 : Tapi_Entry) (a1 : Tapi_Tx) (x : Bool) (hr : Lreplace_Accept_2__r a0 a1 = some x) : ∃ kp fl n, execFn tt T G kp fl n Tryd.f42 [.agg ([.v (.int .u32 a0.1.1), .slice .no (List.map eapi_Input a0.1.2.1), .slice .no (List.map eapi_Output a0.1.2.2.1), .v (.int .u32 a0.1.2.2.2), .v (.int .i64 a0.2)]), .ref ([.v (.int .u32 a1.1), .slice .no (List.map eapi_Input a1.2.1), .slice .no (List.map eapi_Output a1.2.2.1), .v (.int .u32 a1.2.2.2)])] = some (.one (.v (.bool x)), []) := by
  refine fnE (kp := kp42_25) (w := false) body42 ?_
  unfold c42
  rw [Tryd.ntmps42]
  unfold Lreplace_Accept_2__r at hr
  refine ee_seq_reg rfl (by simp [-chunk, -Cell.isSl, -callOp, callOp_eq, ]; rfl) ?_
  obtain ⟨y3, hy3, hr⟩ := Option.bind_eq_some_iff.1 hr
  have ehy3 := G_Ltx_ID_eq hy3
  try simp only [intsR_nil, intsR_cons, intsR_app, intsR_tk, intsR_dr, intsR_st, intsR_rep, List.map_nil, List.map_cons, List.map_append, List.map_take, List.map_drop, List.map_set, List.map_replicate, List.nil_append, List.cons_append, List.append_assoc, eS_I_u8, eapi_Input, eapi_Output, eapi_Entry] at ehy3
  refine ee_seq_reg rfl (by simp [-chunk, -Cell.isSl, -callOp, callOp_eq, hT43, ehy3]; rfl) ?_
  obtain ⟨y4, hy4, hr⟩ := Option.bind_eq_some_iff.1 hr
  have ehy4 := G_Lslices_ContainsFunc_of__api_Input_api_Input__replace_Accept_2_1_eq hy4
  try simp only [intsR_nil, intsR_cons, intsR_app, intsR_tk, intsR_dr, intsR_st, intsR_rep, List.map_nil, List.map_cons, List.map_append, List.map_take, List.map_drop, List.map_set, List.map_replicate, List.nil_append, List.cons_append, List.append_assoc, eS_I_u8, eapi_Input, eapi_Output, eapi_Entry] at ehy4
  refine ee_seq_reg rfl (by simp [-chunk, -Cell.isSl, -callOp, callOp_eq, hT33, ehy4]; rfl) ?_
  refine ee_ret ?_
  obtain rfl := Option.some.inj hr
  simp [FinQ, -chunk, -Cell.isSl, -callOp, callOp_eq, hT33, ehy4]
def kp77_26 : Keep := fun i => if i = 2 then ⟨[0, 1, 7, 8], [], []⟩ else ⟨[], [], []⟩
theorem w77_26 {T : Tab} (hT42 : T 42 = some G_Lreplace_Accept_2__r) (a0 : (List Tapi_Entry)) (a1 : Tapi_Tx) (x : Int) (hr : Lslices_IndexFunc_of__api_Entry_api_Entry__replace_Accept_2 a0 a1 = some x) : ∃ kp fl n, execFn tt T G kp fl n Tryd.f77 [.one (.slice .no (List.map eapi_Entry a0)), .clo 42 [.ref ([.v (.int .u32 a1.1), .slice .no (List.map eapi_Input a1.2.1), .slice .no (List.map eapi_Output a1.2.2.1), .v (.int .u32 a1.2.2.2)])]] = some (.one (.v (.int .i64 x)), []) := by
  refine fnE (kp := kp77_26) (w := false) body77 ?_
  unfold c77
  rw [Tryd.ntmps77]
  unfold Lslices_IndexFunc_of__api_Entry_api_Entry__replace_Accept_2 at hr
  refine ee_seq_reg rfl (by simp [-chunk, -Cell.isSl, -callOp, callOp_eq, ]; rfl) ?_
  refine ee_assoc ?_
  refine ee_seq_reg rfl (by simp [-chunk, -Cell.isSl, -callOp, callOp_eq, ]; rfl) ?_
  refine ee_seq_block ?_
  refine ee_loop (kq := ⟨[0, 1, 7, 8], [], []⟩) (H := fun (s : Int) => match s with | p6 => (⟨([.one (.slice .no (List.map eapi_Entry a0)), .clo 42 [.ref ([.v (.int .u32 a1.1), .slice .no (List.map eapi_Input a1.2.1), .slice .no (List.map eapi_Output a1.2.2.1), .v (.int .u32 a1.2.2.2)])]] ++ (und 5 ++ ([.one (.v (.int .i64 (a0.length : Int))), .one (.v (.int .i64 p6))] ++ (und 10))) : List PV), ([] : Boxes)⟩ : ASt)) (by kernel_rfl) hr (by simp [und, List.replicate, ]) ?_
  rintro p6 x11r hr11
  simp only [Lslices_IndexFunc_of__api_Entry_api_Entry__replace_Accept_2_s1] at hr11
  unfold b77_1
  simp only [und, List.replicate, List.cons_append, List.nil_append]
  refine ee_seq_reg rfl (by simp [-chunk, -Cell.isSl, -callOp, callOp_eq, ]; rfl) ?_
  by_cases c12 : p6 < (a0.length : Int)
  · skip
    have c12N := c12
    try simp at c12N
    rw [if_pos] at hr11
    rotate_left
    · simp [c12, c12N]
    refine ee_seq_condT (by simp [bV, c12, c12N]) ?_
    refine ee_seq_skip ?_
    refine ee_seq_block ?_
    refine ee_seq_reg rfl (by simp [-chunk, -Cell.isSl, -callOp, callOp_eq, c12, c12N]; rfl) ?_
    obtain ⟨x13, hx13, hr11⟩ := Option.bind_eq_some_iff.1 hr11
    obtain ⟨hx13a, hx13b⟩ := idx_some hx13
    have hx13c := getE_of hx13b
    obtain ⟨y14, hy14, hr11⟩ := Option.bind_eq_some_iff.1 hr11
    have ehy14 := G_Lreplace_Accept_2__r_eq hy14
    try simp only [intsR_nil, intsR_cons, intsR_app, intsR_tk, intsR_dr, intsR_st, intsR_rep, List.map_nil, List.map_cons, List.map_append, List.map_take, List.map_drop, List.map_set, List.map_replicate, List.nil_append, List.cons_append, List.append_assoc, eS_I_u8, eapi_Input, eapi_Output, eapi_Entry] at ehy14
    refine ee_seq_reg rfl (by simp [-chunk, -Cell.isSl, -callOp, callOp_eq, hx13a, hx13b, hx13c, hT42, ehy14, c12, c12N]; rfl) ?_
    by_cases c15 : y14 = true
    · skip
      rw [if_pos] at hr11
      rotate_left
      · simp [c12, c12N, c15]
      refine ee_condT (by simp [bV, c12, c12N, c15]) ?_
      refine ee_seq_reg rfl (by simp [-chunk, -Cell.isSl, -callOp, callOp_eq, c12, c12N, c15]; rfl) ?_
      refine ee_ret ?_
      obtain rfl := Option.some.inj hr11
      simp only [outOf, thenQ, QL, if_true, ite_true, reduceCtorEq, if_false]
      rintro rfl
      simp [FinQ, -chunk, -Cell.isSl, -callOp, callOp_eq, c12, c12N, c15]
    · skip
      rw [if_neg] at hr11
      rotate_left
      · simp [c12, c12N, c15]
      refine ee_condF (by simp [bV, c12, c12N, c15]) ?_
      refine ee_skip ?_
      simp only [outOf, thenQ, QL, if_true, ite_true, reduceCtorEq, if_false]
      refine ee_reg rfl (by simp [-chunk, -Cell.isSl, -callOp, callOp_eq, c12, c12N, c15]; rfl) ?_
      obtain rfl := Option.some.inj hr11
      simp only [outOf, thenQ, QL, if_true, ite_true, reduceCtorEq, if_false]
      simp [und, List.replicate, Nat.add_assoc, c12, c12N, c15]
  · skip
    have c12N := c12
    try simp at c12N
    rw [if_neg] at hr11
    rotate_left
    · simp [c12, c12N]
    refine ee_seq_condF (by simp [bV, c12, c12N]) ?_
    refine ee_seq_exit ?_
    obtain ⟨r16, q16, rfl⟩ := Option.map_eq_some_iff.1 hr11
    simp only [outOf, thenQ, QL, if_true, ite_true, reduceCtorEq, if_false]
    rintro rfl
    try simp only [outOf, thenQ, QL, if_true, ite_true, reduceCtorEq, if_false]
    unfold Lslices_IndexFunc_of__api_Entry_api_Entry__replace_Accept_2_k1 at q16
    refine ee_seq_reg rfl (by simp [-chunk, -Cell.isSl, -callOp, callOp_eq, c12, c12N]; rfl) ?_
    refine ee_ret ?_
    obtain rfl := Option.some.inj q16
    simp [FinQ, -chunk, -Cell.isSl, -callOp, callOp_eq, c12, c12N]
end Go.Proofs.YtconfbgcjkjnkaaDoor
