import Derived.Test.YtconfbgcjkjnkaaDoorLfK
import Derived.Test.YtconfbgcjkjnkaaDoorCode
namespace Go.Proofs.YtconfbgcjkjnkaaDoor
open Go.RowKit
open Go.Av
open Go.Lc
set_option maxRecDepth 100000
set_option linter.unusedSimpArgs false
set_option linter.unusedVariables false
set_option maxHeartbeats 4000000
def kp41_27 : Keep := fun i => ⟨[], [], []⟩
theorem w41_27 {T : Tab} (hT77 : T 77 = some G_Lslices_IndexFunc_of__api_Entry_api_Entry__replace_Accept_2) (a0 : (List Tapi_Entry)) (a1 : Tapi_Tx) (x : Bool) (hr : Lslices_ContainsFunc_of__api_Entry_api_Entry__replace_Accept_2 a0 a1 = some x) : ∃ kp fl n, execFn tt T G kp fl n Tryd.f41 [.one (.slice .no (List.map eapi_Entry a0)), .clo 42 [.ref ([.v (.int .u32 a1.1), .slice .no (List.map eapi_Input a1.2.1), .slice .no (List.map eapi_Output a1.2.2.1), .v (.int .u32 a1.2.2.2)])]] = some (.one (.v (.bool x)), []) := by
  refine fnE (kp := kp41_27) (w := false) body41 ?_
  unfold c41
  rw [Tryd.ntmps41]
  unfold Lslices_ContainsFunc_of__api_Entry_api_Entry__replace_Accept_2 at hr
  refine ee_seq_reg rfl (by simp [-chunk, -Cell.isSl, -callOp, callOp_eq, ]; rfl) ?_
  obtain ⟨y2, hy2, hr⟩ := Option.bind_eq_some_iff.1 hr
  have ehy2 := G_Lslices_IndexFunc_of__api_Entry_api_Entry__replace_Accept_2_eq hy2
  try simp only [intsR_nil, intsR_cons, intsR_app, intsR_tk, intsR_dr, intsR_st, intsR_rep, List.map_nil, List.map_cons, List.map_append, List.map_take, List.map_drop, List.map_set, List.map_replicate, List.nil_append, List.cons_append, List.append_assoc, eS_I_u8, eapi_Input, eapi_Output, eapi_Entry] at ehy2
  refine ee_seq_reg rfl (by simp [-chunk, -Cell.isSl, -callOp, callOp_eq, hT77, ehy2]; rfl) ?_
  refine ee_ret ?_
  obtain rfl := Option.some.inj hr
  simp [FinQ, -chunk, -Cell.isSl, -callOp, callOp_eq, hT77, ehy2]
def kp40_28 : Keep := fun i => ⟨[], [], []⟩
theorem w40_28 {T : Tab} (hT41 : T 41 = some G_Lslices_ContainsFunc_of__api_Entry_api_Entry__replace_Accept_2) (a0 : Tapi_Tx) (a1 : (List Tapi_Entry)) (x : Bool) (hr : Lreplace_Accept_1__replace_Accept_2_p a0 a1 = some x) : ∃ kp fl n, execFn tt T G kp fl n Tryd.f40 [.clo 42 [.ref ([.v (.int .u32 a0.1), .slice .no (List.map eapi_Input a0.2.1), .slice .no (List.map eapi_Output a0.2.2.1), .v (.int .u32 a0.2.2.2)])], .io ([.slice .no (List.map eapi_Entry a1)])] = some (.one (.v (.bool x)), [[.slice .no (List.map eapi_Entry a1)]]) := by
  refine fnE (kp := kp40_28) (w := false) body40 ?_
  unfold c40
  rw [Tryd.ntmps40]
  unfold Lreplace_Accept_1__replace_Accept_2_p at hr
  refine ee_seq_reg rfl (by simp [-chunk, -Cell.isSl, -callOp, callOp_eq, ]; rfl) ?_
  obtain ⟨y2, hy2, hr⟩ := Option.bind_eq_some_iff.1 hr
  have ehy2 := G_Lslices_ContainsFunc_of__api_Entry_api_Entry__replace_Accept_2_eq hy2
  try simp only [intsR_nil, intsR_cons, intsR_app, intsR_tk, intsR_dr, intsR_st, intsR_rep, List.map_nil, List.map_cons, List.map_append, List.map_take, List.map_drop, List.map_set, List.map_replicate, List.nil_append, List.cons_append, List.append_assoc, eS_I_u8, eapi_Input, eapi_Output, eapi_Entry] at ehy2
  refine ee_seq_reg rfl (by simp [-chunk, -Cell.isSl, -callOp, callOp_eq, hT41, ehy2]; rfl) ?_
  refine ee_ret ?_
  obtain rfl := Option.some.inj hr
  simp [FinQ, -chunk, -Cell.isSl, -callOp, callOp_eq, hT41, ehy2]
def kp18 : Keep := fun i => ⟨[], [], []⟩
theorem w18 {T : Tab} (hT39 : T 39 = some G_Ltx_Check) (hT40 : T 40 = some (gor G_Lreplace_Accept_1__replace_Accept_2_p (gor G_Lreplace_Accept_1__replace_Accept_4_p (gor G_Lreplace_Accept_1__replace_Accept_3_p G_Lreplace_Accept_1__replace_Accept_5_p)))) (hT45 : T 45 = some G_Ltx_Coinbase) (hT46 : T 46 = some G_Lreplace_money) (hT50 : T 50 = some G_Lreplace_enough) (a0 : (List Tapi_Entry)) (a1 : Tapi_Tx) (a2 : Int) (x : Int) (hr : Lreplace_Accept a0 a1 a2 = some x) : ∃ kp fl n, execFn tt T G kp fl n Tryd.f18 [.one (.slice .no (List.map eapi_Entry a0)), .agg ([.v (.int .u32 a1.1), .slice .no (List.map eapi_Input a1.2.1), .slice .no (List.map eapi_Output a1.2.2.1), .v (.int .u32 a1.2.2.2)]), .one (.v (.int .i64 a2))] = some (.one (.v (.int .i64 x)), []) := by
  refine fnE (kp := kp18) (w := false) body18 ?_
  unfold c18
  rw [Tryd.ntmps18]
  unfold Lreplace_Accept at hr
  refine ee_seq_reg rfl (by simp [-chunk, -Cell.isSl, -callOp, callOp_eq, ]; rfl) ?_
  refine ee_assoc ?_
  obtain ⟨y10, hy10, hr⟩ := Option.bind_eq_some_iff.1 hr
  have ehy10 := G_Ltx_Check_eq hy10
  try simp only [intsR_nil, intsR_cons, intsR_app, intsR_tk, intsR_dr, intsR_st, intsR_rep, List.map_nil, List.map_cons, List.map_append, List.map_take, List.map_drop, List.map_set, List.map_replicate, List.nil_append, List.cons_append, List.append_assoc, eS_I_u8, eapi_Input, eapi_Output, eapi_Entry] at ehy10
  refine ee_seq_reg rfl (by simp [-chunk, -Cell.isSl, -callOp, callOp_eq, hT39, ehy10]; rfl) ?_
  refine ee_assoc ?_
  refine ee_seq_reg rfl (by simp [-chunk, -Cell.isSl, -callOp, callOp_eq, ]; rfl) ?_
  by_cases c11 : y10 = 0
  · skip
    rw [if_neg] at hr
    rotate_left
    · simp [eq_true c11]
    refine ee_seq_condF (by simp [bV, eq_true c11]) ?_
    refine ee_seq_skip ?_
    refine ee_seq_reg rfl (by simp [-chunk, -Cell.isSl, -callOp, callOp_eq, eq_true c11]; rfl) ?_
    refine ee_seq_reg rfl (by simp [-chunk, -Cell.isSl, -callOp, callOp_eq, eq_true c11]; rfl) ?_
    refine ee_seq_block ?_
    obtain ⟨y12, hy12, hr⟩ := Option.bind_eq_some_iff.1 hr
    have ehy12 := G_Ltx_Coinbase_eq hy12
    try simp only [intsR_nil, intsR_cons, intsR_app, intsR_tk, intsR_dr, intsR_st, intsR_rep, List.map_nil, List.map_cons, List.map_append, List.map_take, List.map_drop, List.map_set, List.map_replicate, List.nil_append, List.cons_append, List.append_assoc, eS_I_u8, eapi_Input, eapi_Output, eapi_Entry] at ehy12
    refine ee_seq_reg rfl (by simp [-chunk, -Cell.isSl, -callOp, callOp_eq, hT45, ehy12, eq_true c11]; rfl) ?_
    by_cases c13 : y12 = true
    · skip
      rw [if_pos] at hr
      rotate_left
      · simp [eq_true c11, c13]
      refine ee_condT (by simp [bV, eq_true c11, c13]) ?_
      refine ee_seq_reg rfl (by simp [-chunk, -Cell.isSl, -callOp, callOp_eq, eq_true c11, c13]; rfl) ?_
      refine ee_ret ?_
      obtain rfl := Option.some.inj hr
      simp [FinQ, -chunk, -Cell.isSl, -callOp, callOp_eq, eq_true c11, c13]
    · skip
      rw [if_neg] at hr
      rotate_left
      · simp [eq_true c11, c13]
      refine ee_condF (by simp [bV, eq_true c11, c13]) ?_
      obtain ⟨y14, hy14, hr⟩ := Option.bind_eq_some_iff.1 hr
      have ehy14 := G_Lreplace_money_eq hy14
      try simp only [intsR_nil, intsR_cons, intsR_app, intsR_tk, intsR_dr, intsR_st, intsR_rep, List.map_nil, List.map_cons, List.map_append, List.map_take, List.map_drop, List.map_set, List.map_replicate, List.nil_append, List.cons_append, List.append_assoc, eS_I_u8, eapi_Input, eapi_Output, eapi_Entry] at ehy14
      by_cases c15 : y14 = true
      · skip
        rw [if_neg] at hr
        rotate_left
        · simp [eq_true c11, c13, c15]
        obtain ⟨z16, hz16, hr⟩ := Option.bind_eq_some_iff.1 hr
        obtain ⟨y17, hy17, hz16⟩ := Option.bind_eq_some_iff.1 hz16
        have ehy17 := gor_r (g := G_Lreplace_Accept_1__replace_Accept_2_p) (by unfold G_Lreplace_Accept_1__replace_Accept_2_p; exact lift_none (by rintro a h; simp [E_Lreplace_Accept_1__replace_Accept_2_p] at h)) (gor_r (g := G_Lreplace_Accept_1__replace_Accept_4_p) (by unfold G_Lreplace_Accept_1__replace_Accept_4_p; exact lift_none (by rintro a h; simp [E_Lreplace_Accept_1__replace_Accept_4_p] at h)) (gor_l (h := G_Lreplace_Accept_1__replace_Accept_5_p) (G_Lreplace_Accept_1__replace_Accept_3_p_eq hy17)))
        try simp only [intsR_nil, intsR_cons, intsR_app, intsR_tk, intsR_dr, intsR_st, intsR_rep, List.map_nil, List.map_cons, List.map_append, List.map_take, List.map_drop, List.map_set, List.map_replicate, List.nil_append, List.cons_append, List.append_assoc, eS_I_u8, eapi_Input, eapi_Output, eapi_Entry] at ehy17
        obtain rfl := Option.some.inj hz16
        refine ee_seq_reg rfl (by simp [-chunk, -Cell.isSl, -callOp, callOp_eq, hT46, ehy14, hT40, ehy17, eq_true c11, c13, c15]; rfl) ?_
        by_cases c18 : y17 = true
        · skip
          rw [if_pos] at hr
          rotate_left
          · simp [eq_true c11, c13, c15, c18]
          refine ee_condT (by simp [bV, eq_true c11, c13, c15, c18]) ?_
          refine ee_seq_reg rfl (by simp [-chunk, -Cell.isSl, -callOp, callOp_eq, eq_true c11, c13, c15, c18]; rfl) ?_
          refine ee_ret ?_
          obtain rfl := Option.some.inj hr
          simp [FinQ, -chunk, -Cell.isSl, -callOp, callOp_eq, eq_true c11, c13, c15, c18]
        · skip
          rw [if_neg] at hr
          rotate_left
          · simp [eq_true c11, c13, c15, c18]
          refine ee_condF (by simp [bV, eq_true c11, c13, c15, c18]) ?_
          obtain ⟨y19, hy19, hr⟩ := Option.bind_eq_some_iff.1 hr
          have ehy19 := gor_r (g := G_Lreplace_Accept_1__replace_Accept_2_p) (by unfold G_Lreplace_Accept_1__replace_Accept_2_p; exact lift_none (by rintro a h; simp [E_Lreplace_Accept_1__replace_Accept_2_p] at h)) (gor_l (h := (gor G_Lreplace_Accept_1__replace_Accept_3_p G_Lreplace_Accept_1__replace_Accept_5_p)) (G_Lreplace_Accept_1__replace_Accept_4_p_eq hy19))
          try simp only [intsR_nil, intsR_cons, intsR_app, intsR_tk, intsR_dr, intsR_st, intsR_rep, List.map_nil, List.map_cons, List.map_append, List.map_take, List.map_drop, List.map_set, List.map_replicate, List.nil_append, List.cons_append, List.append_assoc, eS_I_u8, eapi_Input, eapi_Output, eapi_Entry] at ehy19
          refine ee_seq_reg rfl (by simp [-chunk, -Cell.isSl, -callOp, callOp_eq, hT40, ehy19, eq_true c11, c13, c15, c18]; rfl) ?_
          by_cases c20 : y19 = true
          · skip
            rw [if_pos] at hr
            rotate_left
            · simp [eq_true c11, c13, c15, c18, c20]
            refine ee_condT (by simp [bV, eq_true c11, c13, c15, c18, c20]) ?_
            refine ee_seq_reg rfl (by simp [-chunk, -Cell.isSl, -callOp, callOp_eq, eq_true c11, c13, c15, c18, c20]; rfl) ?_
            refine ee_ret ?_
            obtain rfl := Option.some.inj hr
            simp [FinQ, -chunk, -Cell.isSl, -callOp, callOp_eq, eq_true c11, c13, c15, c18, c20]
          · skip
            rw [if_neg] at hr
            rotate_left
            · simp [eq_true c11, c13, c15, c18, c20]
            refine ee_condF (by simp [bV, eq_true c11, c13, c15, c18, c20]) ?_
            obtain ⟨y21, hy21, hr⟩ := Option.bind_eq_some_iff.1 hr
            have ehy21 := gor_r (g := G_Lreplace_Accept_1__replace_Accept_2_p) (by unfold G_Lreplace_Accept_1__replace_Accept_2_p; exact lift_none (by rintro a h; simp [E_Lreplace_Accept_1__replace_Accept_2_p] at h)) (gor_r (g := G_Lreplace_Accept_1__replace_Accept_4_p) (by unfold G_Lreplace_Accept_1__replace_Accept_4_p; exact lift_none (by rintro a h; simp [E_Lreplace_Accept_1__replace_Accept_4_p] at h)) (gor_r (g := G_Lreplace_Accept_1__replace_Accept_3_p) (by unfold G_Lreplace_Accept_1__replace_Accept_3_p; exact lift_none (by rintro a h; simp [E_Lreplace_Accept_1__replace_Accept_3_p] at h)) (G_Lreplace_Accept_1__replace_Accept_5_p_eq hy21)))
            try simp only [intsR_nil, intsR_cons, intsR_app, intsR_tk, intsR_dr, intsR_st, intsR_rep, List.map_nil, List.map_cons, List.map_append, List.map_take, List.map_drop, List.map_set, List.map_replicate, List.nil_append, List.cons_append, List.append_assoc, eS_I_u8, eapi_Input, eapi_Output, eapi_Entry] at ehy21
            refine ee_seq_reg rfl (by simp [-chunk, -Cell.isSl, -callOp, callOp_eq, hT40, ehy21, eq_true c11, c13, c15, c18, c20]; rfl) ?_
            by_cases c22 : y21 = true
            · skip
              rw [if_pos] at hr
              rotate_left
              · simp [eq_true c11, c13, c15, c18, c20, c22]
              refine ee_condT (by simp [bV, eq_true c11, c13, c15, c18, c20, c22]) ?_
              refine ee_seq_reg rfl (by simp [-chunk, -Cell.isSl, -callOp, callOp_eq, eq_true c11, c13, c15, c18, c20, c22]; rfl) ?_
              refine ee_ret ?_
              obtain rfl := Option.some.inj hr
              simp [FinQ, -chunk, -Cell.isSl, -callOp, callOp_eq, eq_true c11, c13, c15, c18, c20, c22]
            · skip
              rw [if_neg] at hr
              rotate_left
              · simp [eq_true c11, c13, c15, c18, c20, c22]
              refine ee_condF (by simp [bV, eq_true c11, c13, c15, c18, c20, c22]) ?_
              obtain ⟨y23, hy23, hr⟩ := Option.bind_eq_some_iff.1 hr
              have ehy23 := gor_l (h := (gor G_Lreplace_Accept_1__replace_Accept_4_p (gor G_Lreplace_Accept_1__replace_Accept_3_p G_Lreplace_Accept_1__replace_Accept_5_p))) (G_Lreplace_Accept_1__replace_Accept_2_p_eq hy23)
              try simp only [intsR_nil, intsR_cons, intsR_app, intsR_tk, intsR_dr, intsR_st, intsR_rep, List.map_nil, List.map_cons, List.map_append, List.map_take, List.map_drop, List.map_set, List.map_replicate, List.nil_append, List.cons_append, List.append_assoc, eS_I_u8, eapi_Input, eapi_Output, eapi_Entry] at ehy23
              refine ee_seq_reg rfl (by simp [-chunk, -Cell.isSl, -callOp, callOp_eq, hT40, ehy23, eq_true c11, c13, c15, c18, c20, c22]; rfl) ?_
              by_cases c24 : y23 = true
              · skip
                rw [if_pos] at hr
                rotate_left
                · simp [eq_true c11, c13, c15, c18, c20, c22, c24]
                refine ee_condT (by simp [bV, eq_true c11, c13, c15, c18, c20, c22, c24]) ?_
                refine ee_seq_reg rfl (by simp [-chunk, -Cell.isSl, -callOp, callOp_eq, eq_true c11, c13, c15, c18, c20, c22, c24]; rfl) ?_
                refine ee_ret ?_
                obtain rfl := Option.some.inj hr
                simp [FinQ, -chunk, -Cell.isSl, -callOp, callOp_eq, eq_true c11, c13, c15, c18, c20, c22, c24]
              · skip
                rw [if_neg] at hr
                rotate_left
                · simp [eq_true c11, c13, c15, c18, c20, c22, c24]
                refine ee_condF (by simp [bV, eq_true c11, c13, c15, c18, c20, c22, c24]) ?_
                obtain ⟨y25, hy25, hr⟩ := Option.bind_eq_some_iff.1 hr
                have ehy25 := G_Lreplace_enough_eq hy25
                try simp only [intsR_nil, intsR_cons, intsR_app, intsR_tk, intsR_dr, intsR_st, intsR_rep, List.map_nil, List.map_cons, List.map_append, List.map_take, List.map_drop, List.map_set, List.map_replicate, List.nil_append, List.cons_append, List.append_assoc, eS_I_u8, eapi_Input, eapi_Output, eapi_Entry] at ehy25
                refine ee_seq_reg rfl (by simp [-chunk, -Cell.isSl, -callOp, callOp_eq, hT50, ehy25, eq_true c11, c13, c15, c18, c20, c22, c24]; rfl) ?_
                by_cases c26 : y25 = true
                · skip
                  rw [if_neg] at hr
                  rotate_left
                  · simp [eq_true c11, c13, c15, c18, c20, c22, c24, c26]
                  refine ee_condF (by simp [bV, eq_true c11, c13, c15, c18, c20, c22, c24, c26]) ?_
                  refine ee_skip ?_
                  simp only [outOf, thenQ, QL, if_true, ite_true, reduceCtorEq, if_false]
                  refine ee_seq_reg rfl (by simp [-chunk, -Cell.isSl, -callOp, callOp_eq, eq_true c11, c13, c15, c18, c20, c22, c24, c26]; rfl) ?_
                  refine ee_ret ?_
                  obtain rfl := Option.some.inj hr
                  simp [FinQ, -chunk, -Cell.isSl, -callOp, callOp_eq, eq_true c11, c13, c15, c18, c20, c22, c24, c26]
                · skip
                  rw [if_pos] at hr
                  rotate_left
                  · simp [eq_true c11, c13, c15, c18, c20, c22, c24, c26]
                  refine ee_condT (by simp [bV, eq_true c11, c13, c15, c18, c20, c22, c24, c26]) ?_
                  refine ee_seq_reg rfl (by simp [-chunk, -Cell.isSl, -callOp, callOp_eq, eq_true c11, c13, c15, c18, c20, c22, c24, c26]; rfl) ?_
                  refine ee_ret ?_
                  obtain rfl := Option.some.inj hr
                  simp [FinQ, -chunk, -Cell.isSl, -callOp, callOp_eq, eq_true c11, c13, c15, c18, c20, c22, c24, c26]
      · skip
        rw [if_pos] at hr
        rotate_left
        · simp [eq_true c11, c13, c15]
        obtain ⟨z27, hz27, hr⟩ := Option.bind_eq_some_iff.1 hr
        obtain rfl := Option.some.inj hz27
        refine ee_seq_reg rfl (by simp [-chunk, -Cell.isSl, -callOp, callOp_eq, hT46, ehy14, eq_true c11, c13, c15]; rfl) ?_
        rw [if_pos] at hr
        rotate_left
        · simp [eq_true c11, c13, c15]
        refine ee_condT (by simp [bV, eq_true c11, c13, c15]) ?_
        refine ee_seq_reg rfl (by simp [-chunk, -Cell.isSl, -callOp, callOp_eq, eq_true c11, c13, c15]; rfl) ?_
        refine ee_ret ?_
        obtain rfl := Option.some.inj hr
        simp [FinQ, -chunk, -Cell.isSl, -callOp, callOp_eq, eq_true c11, c13, c15]
  · skip
    rw [if_pos] at hr
    rotate_left
    · simp [c11]
    refine ee_seq_condT (by simp [bV, c11]) ?_
    refine ee_assoc ?_
    refine ee_seq_reg rfl (by simp [-chunk, -Cell.isSl, -callOp, callOp_eq, c11]; rfl) ?_
    refine ee_seq_ret ?_
    obtain rfl := Option.some.inj hr
    simp [FinQ, -chunk, -Cell.isSl, -callOp, callOp_eq, c11]
def kp8 : Keep := fun i => ⟨[], [], []⟩
theorem w8 {T : Tab} (hT11 : T 11 = some G_Lreplace_Signals) (hT13 : T 13 = some G_Lreplace_Conflict) (hT18 : T 18 = some G_Lreplace_Accept) (x : Bool) (hr : Llaw36_sane  = some x) : ∃ kp fl n, execFn tt T G kp fl n Tryd.f8 [] = some (.one (.v (.bool x)), []) := by
  refine fnE (kp := kp8) (w := false) body8 ?_
  unfold c8
  rw [Tryd.ntmps8]
  unfold Llaw36_sane at hr
  refine ee_seq_reg rfl (by simp [-chunk, -Cell.isSl, -callOp, callOp_eq, ]; rfl) ?_
  refine ee_seq_reg rfl (by simp [-chunk, -Cell.isSl, -callOp, callOp_eq, ]; rfl) ?_
  refine ee_seq_reg rfl (by simp [-chunk, -Cell.isSl, -callOp, callOp_eq, ]; rfl) ?_
  refine ee_seq_reg rfl (by simp [-chunk, -Cell.isSl, -callOp, callOp_eq, ]; rfl) ?_
  obtain ⟨y8, hy8, hr⟩ := Option.bind_eq_some_iff.1 hr
  have ehy8 := G_Lreplace_Signals_eq hy8
  try simp only [intsR_nil, intsR_cons, intsR_app, intsR_tk, intsR_dr, intsR_st, intsR_rep, List.map_nil, List.map_cons, List.map_append, List.map_take, List.map_drop, List.map_set, List.map_replicate, List.nil_append, List.cons_append, List.append_assoc, eS_I_u8, eapi_Input, eapi_Output, eapi_Entry] at ehy8
  by_cases c9 : y8 = true
  · skip
    rw [if_neg] at hr
    rotate_left
    · simp [c9]
    obtain ⟨z10, hz10, hr⟩ := Option.bind_eq_some_iff.1 hr
    obtain rfl := Option.some.inj hz10
    rw [if_neg] at hr
    rotate_left
    · simp [c9]
    obtain ⟨z11, hz11, hr⟩ := Option.bind_eq_some_iff.1 hr
    obtain rfl := Option.some.inj hz11
    rw [if_neg] at hr
    rotate_left
    · simp [c9]
    obtain ⟨z12, hz12, hr⟩ := Option.bind_eq_some_iff.1 hr
    obtain rfl := Option.some.inj hz12
    refine ee_seq_reg rfl (by simp [-chunk, -Cell.isSl, -callOp, callOp_eq, hT11, ehy8, c9]; rfl) ?_
    refine ee_ret ?_
    obtain rfl := Option.some.inj hr
    simp [FinQ, -chunk, -Cell.isSl, -callOp, callOp_eq, hT11, ehy8, c9]
  · skip
    rw [if_pos] at hr
    rotate_left
    · simp [c9]
    obtain ⟨z13, hz13, hr⟩ := Option.bind_eq_some_iff.1 hr
    obtain ⟨y14, hy14, hz13⟩ := Option.bind_eq_some_iff.1 hz13
    have ehy14 := G_Lreplace_Signals_eq hy14
    try simp only [intsR_nil, intsR_cons, intsR_app, intsR_tk, intsR_dr, intsR_st, intsR_rep, List.map_nil, List.map_cons, List.map_append, List.map_take, List.map_drop, List.map_set, List.map_replicate, List.nil_append, List.cons_append, List.append_assoc, eS_I_u8, eapi_Input, eapi_Output, eapi_Entry] at ehy14
    obtain rfl := Option.some.inj hz13
    by_cases c15 : y14 = true
    · skip
      rw [if_pos] at hr
      rotate_left
      · simp [c9, c15]
      obtain ⟨z16, hz16, hr⟩ := Option.bind_eq_some_iff.1 hr
      obtain ⟨y17, hy17, hz16⟩ := Option.bind_eq_some_iff.1 hz16
      have ehy17 := G_Lreplace_Conflict_eq hy17
      try simp only [intsR_nil, intsR_cons, intsR_app, intsR_tk, intsR_dr, intsR_st, intsR_rep, List.map_nil, List.map_cons, List.map_append, List.map_take, List.map_drop, List.map_set, List.map_replicate, List.nil_append, List.cons_append, List.append_assoc, eS_I_u8, eapi_Input, eapi_Output, eapi_Entry] at ehy17
      obtain rfl := Option.some.inj hz16
      by_cases c18 : y17 = true
      · skip
        rw [if_pos] at hr
        rotate_left
        · simp [c9, c15, c18]
        obtain ⟨z19, hz19, hr⟩ := Option.bind_eq_some_iff.1 hr
        obtain ⟨y20, hy20, hz19⟩ := Option.bind_eq_some_iff.1 hz19
        have ehy20 := G_Lreplace_Accept_eq hy20
        try simp only [intsR_nil, intsR_cons, intsR_app, intsR_tk, intsR_dr, intsR_st, intsR_rep, List.map_nil, List.map_cons, List.map_append, List.map_take, List.map_drop, List.map_set, List.map_replicate, List.nil_append, List.cons_append, List.append_assoc, eS_I_u8, eapi_Input, eapi_Output, eapi_Entry] at ehy20
        obtain rfl := Option.some.inj hz19
        refine ee_seq_reg rfl (by simp [-chunk, -Cell.isSl, -callOp, callOp_eq, hT11, ehy8, ehy14, hT13, ehy17, hT18, ehy20, c9, c15, c18]; rfl) ?_
        refine ee_ret ?_
        obtain rfl := Option.some.inj hr
        simp [FinQ, -chunk, -Cell.isSl, -callOp, callOp_eq, hT11, ehy8, ehy14, hT13, ehy17, hT18, ehy20, c9, c15, c18]
      · skip
        rw [if_neg] at hr
        rotate_left
        · simp [c9, c15, c18]
        obtain ⟨z21, hz21, hr⟩ := Option.bind_eq_some_iff.1 hr
        obtain rfl := Option.some.inj hz21
        refine ee_seq_reg rfl (by simp [-chunk, -Cell.isSl, -callOp, callOp_eq, hT11, ehy8, ehy14, hT13, ehy17, c9, c15, c18]; rfl) ?_
        refine ee_ret ?_
        obtain rfl := Option.some.inj hr
        simp [FinQ, -chunk, -Cell.isSl, -callOp, callOp_eq, hT11, ehy8, ehy14, hT13, ehy17, c9, c15, c18]
    · skip
      rw [if_neg] at hr
      rotate_left
      · simp [c9, c15]
      obtain ⟨z22, hz22, hr⟩ := Option.bind_eq_some_iff.1 hr
      obtain rfl := Option.some.inj hz22
      rw [if_neg] at hr
      rotate_left
      · simp [c9, c15]
      obtain ⟨z23, hz23, hr⟩ := Option.bind_eq_some_iff.1 hr
      obtain rfl := Option.some.inj hz23
      refine ee_seq_reg rfl (by simp [-chunk, -Cell.isSl, -callOp, callOp_eq, hT11, ehy8, ehy14, c9, c15]; rfl) ?_
      refine ee_ret ?_
      obtain rfl := Option.some.inj hr
      simp [FinQ, -chunk, -Cell.isSl, -callOp, callOp_eq, hT11, ehy8, ehy14, c9, c15]
def kp9 : Keep := fun i => ⟨[], [], []⟩
theorem w9 {T : Tab} (a0 : (List Int)) (x : Tlightclientmill_Deck) (hr : Lmill_New a0 = some x) : ∃ kp fl n, execFn tt T G kp fl n Tryd.f9 [.one (.slice .no (intsR .i64 a0))] = some (.io ([.slice .no (intsR .i64 x.1), .v (.int .i64 x.2)]), []) := by
  refine fnE (kp := kp9) (w := true) body9 ?_
  unfold c9
  rw [Tryd.ntmps9]
  unfold Lmill_New at hr
  refine ee_seq_reg rfl (by simp [-chunk, -Cell.isSl, -callOp, callOp_eq, ]; rfl) ?_
  refine ee_seq_reg rfl (by simp [-chunk, -Cell.isSl, -callOp, callOp_eq, ]; rfl) ?_
  refine ee_ret ?_
  obtain rfl := Option.some.inj hr
  simp [FinQ, -chunk, -Cell.isSl, -callOp, callOp_eq, ]
def kp25 : Keep := fun i => ⟨[], [], []⟩
theorem w25 {T : Tab} (a0 : Int) (a1 : Int) (x : Int) (hr : Lmill_Mod a0 a1 = some x) : ∃ kp fl n, execFn tt T G kp fl n Tryd.f25 [.one (.v (.int .i64 a0)), .one (.v (.int .i64 a1))] = some (.one (.v (.int .i64 x)), []) := by
  refine fnE (kp := kp25) (w := false) body25 ?_
  unfold c25
  rw [Tryd.ntmps25]
  unfold Lmill_Mod at hr
  refine ee_seq_reg rfl (by simp [-chunk, -Cell.isSl, -callOp, callOp_eq, ]; rfl) ?_
  obtain ⟨_, u3, hr⟩ := Option.bind_eq_some_iff.1 hr
  have u3_0 := chk_some u3
  refine ee_seq_reg rfl (by simp [-chunk, -Cell.isSl, -callOp, callOp_eq, u3_0]; rfl) ?_
  refine ee_assoc ?_
  refine ee_seq_reg rfl (by simp [-chunk, -Cell.isSl, -callOp, callOp_eq, ]; rfl) ?_
  by_cases c4 : (a0).tmod a1 < 0
  · skip
    rw [if_pos] at hr
    rotate_left
    · simp [c4]
    refine ee_seq_condT (by simp [bV, c4]) ?_
    refine ee_seq_reg rfl (by simp [-chunk, -Cell.isSl, -callOp, callOp_eq, c4]; rfl) ?_
    unfold Lmill_Mod_k1 at hr
    refine ee_seq_reg rfl (by simp [-chunk, -Cell.isSl, -callOp, callOp_eq, c4]; rfl) ?_
    refine ee_ret ?_
    obtain rfl := Option.some.inj hr
    simp [FinQ, -chunk, -Cell.isSl, -callOp, callOp_eq, c4]
  · skip
    rw [if_neg] at hr
    rotate_left
    · simp [c4]
    refine ee_seq_condF (by simp [bV, c4]) ?_
    refine ee_seq_skip ?_
    unfold Lmill_Mod_k1 at hr
    refine ee_seq_reg rfl (by simp [-chunk, -Cell.isSl, -callOp, callOp_eq, c4]; rfl) ?_
    refine ee_ret ?_
    obtain rfl := Option.some.inj hr
    simp [FinQ, -chunk, -Cell.isSl, -callOp, callOp_eq, c4]
def kp38 : Keep := fun i => ⟨[], [], []⟩
theorem w38 {T : Tab} (a0 : Tlightclientmill_Deck) (x : Bool × Tlightclientmill_Deck) (hr : Lmill_Deck_Left a0 = some x) : ∃ kp fl n, execFn tt T G kp fl n Tryd.f38 [.io ([.slice .no (intsR .i64 a0.1), .v (.int .i64 a0.2)])] = some (.one (.v (.bool x.1)), [[.slice .no (intsR .i64 x.2.1), .v (.int .i64 x.2.2)]]) := by
  refine fnE (kp := kp38) (w := false) body38 ?_
  unfold c38
  rw [Tryd.ntmps38]
  unfold Lmill_Deck_Left at hr
  refine ee_seq_reg rfl (by simp [-chunk, -Cell.isSl, -callOp, callOp_eq, ]; rfl) ?_
  refine ee_seq_draw rfl (by simp [-chunk, -Cell.isSl, -callOp, callOp_eq, ]; first | exact ⟨rfl, rfl⟩ | rfl) (by kernel_rfl) ?_
  refine ee_ret ?_
  obtain rfl := Option.some.inj hr
  simp [FinQ, -chunk, -Cell.isSl, -callOp, callOp_eq, ]
def kp17 : Keep := fun i => ⟨[], [], []⟩
theorem w17 {T : Tab} (hT25 : T 25 = some G_Lmill_Mod) (hT38 : T 38 = some G_Lmill_Deck_Left) (a0 : Tlightclientmill_Deck) (a1 : Int) (x : Int × Tlightclientmill_Deck) (hr : Lmill_Deck_Next a0 a1 = some x) : ∃ kp fl n, execFn tt T G kp fl n Tryd.f17 [.io ([.slice .no (intsR .i64 a0.1), .v (.int .i64 a0.2)]), .one (.v (.int .i64 a1))] = some (.one (.v (.int .i64 x.1)), [[.slice .no (intsR .i64 x.2.1), .v (.int .i64 x.2.2)]]) := by
  refine fnE (kp := kp17) (w := false) body17 ?_
  unfold c17
  rw [Tryd.ntmps17]
  unfold Lmill_Deck_Next at hr
  refine ee_seq_reg rfl (by simp [-chunk, -Cell.isSl, -callOp, callOp_eq, ]; rfl) ?_
  refine ee_assoc ?_
  obtain ⟨y4, hy4, hr⟩ := Option.bind_eq_some_iff.1 hr
  have ehy4 := G_Lmill_Deck_Left_eq hy4
  try simp only [intsR_nil, intsR_cons, intsR_app, intsR_tk, intsR_dr, intsR_st, intsR_rep, List.map_nil, List.map_cons, List.map_append, List.map_take, List.map_drop, List.map_set, List.map_replicate, List.nil_append, List.cons_append, List.append_assoc, eS_I_u8, eapi_Input, eapi_Output, eapi_Entry] at ehy4
  refine ee_seq_reg rfl (by simp [-chunk, -Cell.isSl, -callOp, callOp_eq, hT38, ehy4]; rfl) ?_
  by_cases c5 : y4.1 = true
  · skip
    rw [if_neg] at hr
    rotate_left
    · simp [c5]
    refine ee_seq_condF (by simp [bV, c5]) ?_
    refine ee_seq_skip ?_
    refine ee_seq_reg rfl (by simp [-chunk, -Cell.isSl, -callOp, callOp_eq, c5]; rfl) ?_
    obtain ⟨x6, hx6, hr⟩ := Option.bind_eq_some_iff.1 hr
    obtain ⟨hx6a, hx6b⟩ := idx_some hx6
    have hx6c := getE_of hx6b
    obtain ⟨y7, hy7, hr⟩ := Option.bind_eq_some_iff.1 hr
    have ehy7 := G_Lmill_Mod_eq hy7
    try simp only [intsR_nil, intsR_cons, intsR_app, intsR_tk, intsR_dr, intsR_st, intsR_rep, List.map_nil, List.map_cons, List.map_append, List.map_take, List.map_drop, List.map_set, List.map_replicate, List.nil_append, List.cons_append, List.append_assoc, eS_I_u8, eapi_Input, eapi_Output, eapi_Entry] at ehy7
    refine ee_seq_draw rfl (by simp [-chunk, -Cell.isSl, -callOp, callOp_eq, hx6a, hx6b, hx6c, hT25, ehy7, c5]; first | exact ⟨rfl, rfl⟩ | rfl) (by kernel_rfl) ?_
    refine ee_ret ?_
    obtain rfl := Option.some.inj hr
    simp [FinQ, -chunk, -Cell.isSl, -callOp, callOp_eq, hx6a, hx6b, hx6c, hT25, ehy7, c5]
  · skip
    rw [if_pos] at hr
    rotate_left
    · simp [c5]
    refine ee_seq_condT (by simp [bV, c5]) ?_
    refine ee_assoc ?_
    refine ee_seq_reg rfl (by simp [-chunk, -Cell.isSl, -callOp, callOp_eq, c5]; rfl) ?_
    refine ee_seq_ret ?_
    obtain rfl := Option.some.inj hr
    simp [FinQ, -chunk, -Cell.isSl, -callOp, callOp_eq, c5]
def kp23 : Keep := fun i => ⟨[], [], []⟩
theorem w23 {T : Tab} (a0 : Int) (x : (List Int)) (hr : Lmade_Script a0 = some x) : ∃ kp fl n, execFn tt T G kp fl n Tryd.f23 [.one (.v (.int .u8 a0))] = some (.one (.own 1 (intsR .u8 x)), []) := by
  refine fnE (kp := kp23) (w := true) body23 ?_
  unfold c23
  rw [Tryd.ntmps23]
  unfold Lmade_Script at hr
  refine ee_seq_reg rfl (by simp [-chunk, -Cell.isSl, -callOp, callOp_eq, ]; rfl) ?_
  refine ee_seq_reg rfl (by simp [-chunk, -Cell.isSl, -callOp, callOp_eq, List.range, List.range.loop]; rfl) ?_
  refine ee_ret ?_
  obtain rfl := Option.some.inj hr
  simp [FinQ, -chunk, -Cell.isSl, -callOp, callOp_eq, List.range, List.range.loop]
def kp31 : Keep := fun i => ⟨[], [], []⟩
theorem w31 {T : Tab} (hT17 : T 17 = some G_Lmill_Deck_Next) (a0 : Tlightclientmill_Deck) (a1 : Int) (a2 : Int) (x : Int × Tlightclientmill_Deck) (hr : Lmill_Deck_Range a0 a1 a2 = some x) : ∃ kp fl n, execFn tt T G kp fl n Tryd.f31 [.io ([.slice .no (intsR .i64 a0.1), .v (.int .i64 a0.2)]), .one (.v (.int .i64 a1)), .one (.v (.int .i64 a2))] = some (.one (.v (.int .i64 x.1)), [[.slice .no (intsR .i64 x.2.1), .v (.int .i64 x.2.2)]]) := by
  refine fnE (kp := kp31) (w := false) body31 ?_
  unfold c31
  rw [Tryd.ntmps31]
  unfold Lmill_Deck_Range at hr
  refine ee_seq_reg rfl (by simp [-chunk, -Cell.isSl, -callOp, callOp_eq, ]; rfl) ?_
  obtain ⟨y2, hy2, hr⟩ := Option.bind_eq_some_iff.1 hr
  have ehy2 := G_Lmill_Deck_Next_eq hy2
  try simp only [intsR_nil, intsR_cons, intsR_app, intsR_tk, intsR_dr, intsR_st, intsR_rep, List.map_nil, List.map_cons, List.map_append, List.map_take, List.map_drop, List.map_set, List.map_replicate, List.nil_append, List.cons_append, List.append_assoc, eS_I_u8, eapi_Input, eapi_Output, eapi_Entry] at ehy2
  refine ee_seq_reg rfl (by simp [-chunk, -Cell.isSl, -callOp, callOp_eq, hT17, ehy2]; rfl) ?_
  refine ee_ret ?_
  obtain rfl := Option.some.inj hr
  simp [FinQ, -chunk, -Cell.isSl, -callOp, callOp_eq, hT17, ehy2]
def kp32 : Keep := fun i => ⟨[], [], []⟩
theorem w32 {T : Tab} (hT17 : T 17 = some G_Lmill_Deck_Next) (a0 : Tlightclientmill_Deck) (x : (Arr 32) × Tlightclientmill_Deck) (hr : Lmill_Hash a0 = some x) : ∃ kp fl n, execFn tt T G kp fl n Tryd.f32 [.io ([.slice .no (intsR .i64 a0.1), .v (.int .i64 a0.2)])] = some (.agg (arC .u8 x.1), [[.slice .no (intsR .i64 x.2.1), .v (.int .i64 x.2.2)]]) := by
  refine fnE (kp := kp32) (w := false) body32 ?_
  unfold c32
  rw [Tryd.ntmps32]
  unfold Lmill_Hash at hr
  refine ee_seq_reg rfl (by simp [-chunk, -Cell.isSl, -callOp, callOp_eq, ]; rfl) ?_
  obtain ⟨y3, hy3, hr⟩ := Option.bind_eq_some_iff.1 hr
  have ehy3 := G_Lmill_Deck_Next_eq hy3
  try simp only [intsR_nil, intsR_cons, intsR_app, intsR_tk, intsR_dr, intsR_st, intsR_rep, List.map_nil, List.map_cons, List.map_append, List.map_take, List.map_drop, List.map_set, List.map_replicate, List.nil_append, List.cons_append, List.append_assoc, eS_I_u8, eapi_Input, eapi_Output, eapi_Entry] at ehy3
  obtain ⟨y4, hy4, hr⟩ := Option.bind_eq_some_iff.1 hr
  have ehy4 := G_Lmill_Deck_Next_eq hy4
  try simp only [intsR_nil, intsR_cons, intsR_app, intsR_tk, intsR_dr, intsR_st, intsR_rep, List.map_nil, List.map_cons, List.map_append, List.map_take, List.map_drop, List.map_set, List.map_replicate, List.nil_append, List.cons_append, List.append_assoc, eS_I_u8, eapi_Input, eapi_Output, eapi_Entry] at ehy4
  have ap5 := arC_put (k := .u8) (zA 32) (i := 0) (by decide) (IntKind.u8.wrap (y3.1))
  have ap6 := arC_put (k := .u8) ((zA 32).put 0 (IntKind.u8.wrap (y3.1))) (i := 31) (by decide) (IntKind.u8.wrap (y4.1))
  refine ee_seq_reg rfl (by simp [-chunk, -Cell.isSl, -callOp, callOp_eq, hT17, ehy3, ehy4, ap5, ap6]; rfl) ?_
  refine ee_ret ?_
  obtain rfl := Option.some.inj hr
  simp [FinQ, -chunk, -Cell.isSl, -callOp, callOp_eq, hT17, ehy3, ehy4, ap5, ap6]
end Go.Proofs.YtconfbgcjkjnkaaDoor
