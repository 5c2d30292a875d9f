import Derived.Test.YtconfbgcjkjnkaaDoorLfK
import Derived.Test.YtconfbgcjkjnkaaDoorCode
namespace Go.Proofs.YtconfbgcjkjnkaaDoor
open Go.RowKit
open Go.Av
open Go.Lc
set_option maxRecDepth 100000
set_option linter.unusedSimpArgs false
set_option linter.unusedVariables false
set_option maxHeartbeats 4000000
def kp39 : Keep := fun i => if i = 9 then ⟨[1, 3, 25, 26, 27], [1, 1000000000023], []⟩ else ⟨[], [], []⟩
theorem w39 {T : Tab} (hT45 : T 45 = some G_Ltx_Coinbase) (hT75 : T 75 = some G_Ltx_fits) (hT76 : T 76 = some G_Ltx_money) (a0 : Tapi_Tx) (x : Int) (hr : Ltx_Check a0 = some x) : ∃ kp fl n, execFn tt T G kp fl n Tryd.f39 [.agg ([.v (.int .u32 a0.1), .slice .no (List.map eapi_Input a0.2.1), .slice .no (List.map eapi_Output a0.2.2.1), .v (.int .u32 a0.2.2.2)])] = some (.one (.v (.int .i64 x)), []) := by
  refine fnE (kp := kp39) (w := false) body39 ?_
  unfold c39
  rw [Tryd.ntmps39]
  unfold Ltx_Check at hr
  refine ee_seq_reg rfl (by simp [-chunk, -Cell.isSl, -callOp, callOp_eq, ]; rfl) ?_
  refine ee_assoc ?_
  obtain ⟨y13, hy13, hr⟩ := Option.bind_eq_some_iff.1 hr
  have ehy13 := G_Ltx_fits_eq hy13
  try simp only [intsR_nil, intsR_cons, intsR_app, intsR_tk, intsR_dr, intsR_st, intsR_rep, List.map_nil, List.map_cons, List.map_append, List.map_take, List.map_drop, List.map_set, List.map_replicate, List.nil_append, List.cons_append, List.append_assoc, eS_I_u8, eapi_Input, eapi_Output] at ehy13
  refine ee_seq_reg rfl (by simp [-chunk, -Cell.isSl, -callOp, callOp_eq, hT75, ehy13]; rfl) ?_
  by_cases c14 : y13 = true
  · skip
    rw [if_neg] at hr
    rotate_left
    · simp [c14]
    refine ee_seq_condF (by simp [bV, c14]) ?_
    refine ee_seq_skip ?_
    refine ee_assoc ?_
    by_cases c15 : (a0.2.1.length : Int) = 0
    · skip
      have c15N := c15
      try simp at c15N
      refine ee_seq_reg rfl (by simp [-chunk, -Cell.isSl, -callOp, callOp_eq, c14, eq_true c15, eq_true c15N]; rfl) ?_
      rw [if_pos] at hr
      rotate_left
      · simp [c14, eq_true c15, eq_true c15N]
      refine ee_seq_condT (by simp [bV, c14, eq_true c15, eq_true c15N]) ?_
      refine ee_assoc ?_
      refine ee_seq_reg rfl (by simp [-chunk, -Cell.isSl, -callOp, callOp_eq, c14, eq_true c15, eq_true c15N]; rfl) ?_
      refine ee_seq_ret ?_
      obtain rfl := Option.some.inj hr
      simp [FinQ, -chunk, -Cell.isSl, -callOp, callOp_eq, c14, eq_true c15, eq_true c15N]
    · skip
      have c15N := c15
      try simp at c15N
      refine ee_seq_reg rfl (by simp [-chunk, -Cell.isSl, -callOp, callOp_eq, c14, c15, c15N]; rfl) ?_
      by_cases c16 : (a0.2.2.1.length : Int) = 0
      · skip
        have c16N := c16
        try simp at c16N
        rw [if_pos] at hr
        rotate_left
        · simp [c14, c15, c15N, eq_true c16, eq_true c16N]
        refine ee_seq_condT (by simp [bV, c14, c15, c15N, eq_true c16, eq_true c16N]) ?_
        refine ee_assoc ?_
        refine ee_seq_reg rfl (by simp [-chunk, -Cell.isSl, -callOp, callOp_eq, c14, c15, c15N, eq_true c16, eq_true c16N]; rfl) ?_
        refine ee_seq_ret ?_
        obtain rfl := Option.some.inj hr
        simp [FinQ, -chunk, -Cell.isSl, -callOp, callOp_eq, c14, c15, c15N, eq_true c16, eq_true c16N]
      · skip
        have c16N := c16
        try simp at c16N
        rw [if_neg] at hr
        rotate_left
        · simp [c14, c15, c15N, c16, c16N]
        refine ee_seq_condF (by simp [bV, c14, c15, c15N, c16, c16N]) ?_
        refine ee_seq_skip ?_
        refine ee_assoc ?_
        obtain ⟨y17, hy17, hr⟩ := Option.bind_eq_some_iff.1 hr
        have ehy17 := G_Ltx_money_eq hy17
        try simp only [intsR_nil, intsR_cons, intsR_app, intsR_tk, intsR_dr, intsR_st, intsR_rep, List.map_nil, List.map_cons, List.map_append, List.map_take, List.map_drop, List.map_set, List.map_replicate, List.nil_append, List.cons_append, List.append_assoc, eS_I_u8, eapi_Input, eapi_Output] at ehy17
        refine ee_seq_reg rfl (by simp [-chunk, -Cell.isSl, -callOp, callOp_eq, hT76, ehy17, c14, c15, c15N, c16, c16N]; rfl) ?_
        by_cases c18 : y17 = true
        · skip
          rw [if_neg] at hr
          rotate_left
          · simp [c14, c15, c15N, c16, c16N, c18]
          refine ee_seq_condF (by simp [bV, c14, c15, c15N, c16, c16N, c18]) ?_
          refine ee_seq_skip ?_
          refine ee_seq_reg rfl (by simp [-chunk, -Cell.isSl, -callOp, callOp_eq, c14, c15, c15N, c16, c16N, c18]; rfl) ?_
          refine ee_assoc ?_
          refine ee_seq_reg rfl (by simp [-chunk, -Cell.isSl, -callOp, callOp_eq, c14, c15, c15N, c16, c16N, c18]; rfl) ?_
          refine ee_seq_block ?_
          refine ee_loop (kq := ⟨[1, 3, 25, 26, 27], [1, 1000000000023], []⟩) (H := fun (s : Int × (List (Tapi_OutPoint × Bool))) => match s with | (p7, p8) => (⟨(und 1 ++ ([.ptr 1 0 0 0 4] ++ (und 1 ++ ([.one (.mp 1000000000023 0)] ++ (und 21 ++ ([.one (.slice .no (List.map eapi_Input a0.2.1)), .one (.v (.int .i64 (a0.2.1.length : Int))), .one (.v (.int .i64 p7))] ++ (und 19)))))) : List PV), ([(1, ⟨0, 4, [[.v (.int .u32 a0.1), .slice .no (List.map eapi_Input a0.2.1), .slice .no (List.map eapi_Output a0.2.2.1), .v (.int .u32 a0.2.2.2)]], false, false⟩), (1000000000023, ⟨0, 6, ((arC .u8 (zA 32)) ++ ((.v (.int .u32 0)) :: [])) :: List.map eM_api_OutPoint_B p8, false, false⟩)] : Boxes)⟩ : ASt)) (by kernel_rfl) hr (by simp [und, List.replicate, c14, c15, c15N, c16, c16N, c18]) ?_
          rintro ⟨p7, p8⟩ x19r hr19
          simp only [Ltx_Check_s1] at hr19
          unfold b39_1
          simp only [und, List.replicate, List.cons_append, List.nil_append]
          refine ee_seq_reg rfl (by simp [-chunk, -Cell.isSl, -callOp, callOp_eq, c14, c15, c15N, c16, c16N, c18]; rfl) ?_
          by_cases c20 : p7 < (a0.2.1.length : Int)
          · skip
            have c20N := c20
            try simp at c20N
            rw [if_pos] at hr19
            rotate_left
            · simp [c14, c15, c15N, c16, c16N, c18, c20, c20N]
            refine ee_seq_condT (by simp [bV, c14, c15, c15N, c16, c16N, c18, c20, c20N]) ?_
            refine ee_seq_skip ?_
            refine ee_seq_block ?_
            obtain ⟨x21, hx21, hr19⟩ := Option.bind_eq_some_iff.1 hr19
            obtain ⟨hx21a, hx21b⟩ := idx_some hx21
            have hx21c := getE_of hx21b
            refine ee_seq_reg rfl (by simp [-chunk, -Cell.isSl, -callOp, callOp_eq, hx21a, hx21b, hx21c, c14, c15, c15N, c16, c16N, c18, c20, c20N]; rfl) ?_
            refine ee_assoc ?_
            refine ee_seq_reg rfl (by simp [-chunk, -Cell.isSl, -callOp, callOp_eq, c14, c15, c15N, c16, c16N, c18, c20, c20N]; rfl) ?_
            by_cases c22 : (mget x21.1 p8).getD false = true
            · skip
              rw [if_pos] at hr19
              rotate_left
              · simp [c14, c15, c15N, c16, c16N, c18, c20, c20N, c22]
              refine ee_seq_condT (by simp [bV, c14, c15, c15N, c16, c16N, c18, c20, c20N, c22]) ?_
              refine ee_assoc ?_
              refine ee_seq_reg rfl (by simp [-chunk, -Cell.isSl, -callOp, callOp_eq, c14, c15, c15N, c16, c16N, c18, c20, c20N, c22]; rfl) ?_
              refine ee_seq_ret ?_
              obtain rfl := Option.some.inj hr19
              simp only [outOf, thenQ, QL, if_true, ite_true, reduceCtorEq, if_false]
              rintro rfl
              simp [FinQ, -chunk, -Cell.isSl, -callOp, callOp_eq, c14, c15, c15N, c16, c16N, c18, c20, c20N, c22]
            · skip
              rw [if_neg] at hr19
              rotate_left
              · simp [c14, c15, c15N, c16, c16N, c18, c20, c20N, c22]
              refine ee_seq_condF (by simp [bV, c14, c15, c15N, c16, c16N, c18, c20, c20N, c22]) ?_
              refine ee_seq_skip ?_
              refine ee_reg rfl (by simp [-chunk, -Cell.isSl, -callOp, callOp_eq, c14, c15, c15N, c16, c16N, c18, c20, c20N, c22]; rfl) ?_
              simp only [outOf, thenQ, QL, if_true, ite_true, reduceCtorEq, if_false]
              refine ee_reg rfl (by simp [-chunk, -Cell.isSl, -callOp, callOp_eq, c14, c15, c15N, c16, c16N, c18, c20, c20N, c22]; rfl) ?_
              obtain rfl := Option.some.inj hr19
              simp only [outOf, thenQ, QL, if_true, ite_true, reduceCtorEq, if_false]
              simp [und, List.replicate, Nat.add_assoc, c14, c15, c15N, c16, c16N, c18, c20, c20N, c22]
          · skip
            have c20N := c20
            try simp at c20N
            rw [if_neg] at hr19
            rotate_left
            · simp [c14, c15, c15N, c16, c16N, c18, c20, c20N]
            refine ee_seq_condF (by simp [bV, c14, c15, c15N, c16, c16N, c18, c20, c20N]) ?_
            refine ee_seq_exit ?_
            obtain ⟨r23, q23, rfl⟩ := Option.map_eq_some_iff.1 hr19
            simp only [outOf, thenQ, QL, if_true, ite_true, reduceCtorEq, if_false]
            rintro rfl
            try simp only [outOf, thenQ, QL, if_true, ite_true, reduceCtorEq, if_false]
            unfold Ltx_Check_k1 at q23
            refine ee_assoc ?_
            by_cases c24 : (mget (zA 32, 4294967295) p8).getD false = true
            · skip
              rw [if_pos] at q23
              rotate_left
              · simp [c14, c15, c15N, c16, c16N, c18, c20, c20N, c24]
              obtain ⟨z25, hz25, q23⟩ := Option.bind_eq_some_iff.1 q23
              obtain ⟨y26, hy26, hz25⟩ := Option.bind_eq_some_iff.1 hz25
              have ehy26 := G_Ltx_Coinbase_eq hy26
              try simp only [intsR_nil, intsR_cons, intsR_app, intsR_tk, intsR_dr, intsR_st, intsR_rep, List.map_nil, List.map_cons, List.map_append, List.map_take, List.map_drop, List.map_set, List.map_replicate, List.nil_append, List.cons_append, List.append_assoc, eS_I_u8, eapi_Input, eapi_Output] at ehy26
              obtain rfl := Option.some.inj hz25
              refine ee_seq_reg rfl (by simp [-chunk, -Cell.isSl, -callOp, callOp_eq, hT45, ehy26, c14, c15, c15N, c16, c16N, c18, c20, c20N, c24]; rfl) ?_
              by_cases c27 : y26 = true
              · skip
                rw [if_neg] at q23
                rotate_left
                · simp [c14, c15, c15N, c16, c16N, c18, c20, c20N, c24, c27]
                refine ee_seq_condF (by simp [bV, c14, c15, c15N, c16, c16N, c18, c20, c20N, c24, c27]) ?_
                refine ee_seq_skip ?_
                refine ee_seq_reg rfl (by simp [-chunk, -Cell.isSl, -callOp, callOp_eq, c14, c15, c15N, c16, c16N, c18, c20, c20N, c24, c27]; rfl) ?_
                refine ee_ret ?_
                obtain rfl := Option.some.inj q23
                simp [FinQ, -chunk, -Cell.isSl, -callOp, callOp_eq, c14, c15, c15N, c16, c16N, c18, c20, c20N, c24, c27]
              · skip
                rw [if_pos] at q23
                rotate_left
                · simp [c14, c15, c15N, c16, c16N, c18, c20, c20N, c24, c27]
                refine ee_seq_condT (by simp [bV, c14, c15, c15N, c16, c16N, c18, c20, c20N, c24, c27]) ?_
                refine ee_assoc ?_
                refine ee_seq_reg rfl (by simp [-chunk, -Cell.isSl, -callOp, callOp_eq, c14, c15, c15N, c16, c16N, c18, c20, c20N, c24, c27]; rfl) ?_
                refine ee_seq_ret ?_
                obtain rfl := Option.some.inj q23
                simp [FinQ, -chunk, -Cell.isSl, -callOp, callOp_eq, c14, c15, c15N, c16, c16N, c18, c20, c20N, c24, c27]
            · skip
              rw [if_neg] at q23
              rotate_left
              · simp [c14, c15, c15N, c16, c16N, c18, c20, c20N, c24]
              obtain ⟨z28, hz28, q23⟩ := Option.bind_eq_some_iff.1 q23
              obtain rfl := Option.some.inj hz28
              refine ee_seq_reg rfl (by simp [-chunk, -Cell.isSl, -callOp, callOp_eq, c14, c15, c15N, c16, c16N, c18, c20, c20N, c24]; rfl) ?_
              rw [if_neg] at q23
              rotate_left
              · simp [c14, c15, c15N, c16, c16N, c18, c20, c20N, c24]
              refine ee_seq_condF (by simp [bV, c14, c15, c15N, c16, c16N, c18, c20, c20N, c24]) ?_
              refine ee_seq_skip ?_
              refine ee_seq_reg rfl (by simp [-chunk, -Cell.isSl, -callOp, callOp_eq, c14, c15, c15N, c16, c16N, c18, c20, c20N, c24]; rfl) ?_
              refine ee_ret ?_
              obtain rfl := Option.some.inj q23
              simp [FinQ, -chunk, -Cell.isSl, -callOp, callOp_eq, c14, c15, c15N, c16, c16N, c18, c20, c20N, c24]
        · skip
          rw [if_pos] at hr
          rotate_left
          · simp [c14, c15, c15N, c16, c16N, c18]
          refine ee_seq_condT (by simp [bV, c14, c15, c15N, c16, c16N, c18]) ?_
          refine ee_assoc ?_
          refine ee_seq_reg rfl (by simp [-chunk, -Cell.isSl, -callOp, callOp_eq, c14, c15, c15N, c16, c16N, c18]; rfl) ?_
          refine ee_seq_ret ?_
          obtain rfl := Option.some.inj hr
          simp [FinQ, -chunk, -Cell.isSl, -callOp, callOp_eq, c14, c15, c15N, c16, c16N, c18]
  · skip
    rw [if_pos] at hr
    rotate_left
    · simp [c14]
    refine ee_seq_condT (by simp [bV, c14]) ?_
    refine ee_assoc ?_
    refine ee_seq_reg rfl (by simp [-chunk, -Cell.isSl, -callOp, callOp_eq, c14]; rfl) ?_
    refine ee_seq_ret ?_
    obtain rfl := Option.some.inj hr
    simp [FinQ, -chunk, -Cell.isSl, -callOp, callOp_eq, c14]
def kp98 : Keep := fun i => ⟨[], [], []⟩
theorem w98 {T : Tab} (hT75 : T 75 = some G_Ltx_fits) (hT95 : T 95 = some G_Ltx_encode) (a0 : Tapi_Tx) (a1 : Bool) (x : (List Int) × Int) (hr : Ltx_Encode a0 a1 = some x) : ∃ kp fl n, execFn tt T G kp fl n Tryd.f98 [.agg ([.v (.int .u32 a0.1), .slice .no (List.map eapi_Input a0.2.1), .slice .no (List.map eapi_Output a0.2.2.1), .v (.int .u32 a0.2.2.2)]), .one (.v (.bool a1))] = some (.tup [.one (.slice .no (intsR .u8 x.1)), .one (.v (.int .i64 x.2))], []) := by
  refine fnE (kp := kp98) (w := false) body98 ?_
  unfold c98
  rw [Tryd.ntmps98]
  unfold Ltx_Encode at hr
  refine ee_seq_reg rfl (by simp [-chunk, -Cell.isSl, -callOp, callOp_eq, ]; rfl) ?_
  refine ee_assoc ?_
  obtain ⟨y3, hy3, hr⟩ := Option.bind_eq_some_iff.1 hr
  have ehy3 := G_Ltx_fits_eq hy3
  try simp only [intsR_nil, intsR_cons, intsR_app, intsR_tk, intsR_dr, intsR_st, intsR_rep, List.map_nil, List.map_cons, List.map_append, List.map_take, List.map_drop, List.map_set, List.map_replicate, List.nil_append, List.cons_append, List.append_assoc, eS_I_u8, eapi_Input, eapi_Output] at ehy3
  refine ee_seq_reg rfl (by simp [-chunk, -Cell.isSl, -callOp, callOp_eq, hT75, ehy3]; rfl) ?_
  by_cases c4 : y3 = true
  · skip
    rw [if_neg] at hr
    rotate_left
    · simp [c4]
    refine ee_seq_condF (by simp [bV, c4]) ?_
    refine ee_seq_skip ?_
    obtain ⟨y5, hy5, hr⟩ := Option.bind_eq_some_iff.1 hr
    have ehy5 := G_Ltx_encode_eq hy5
    try simp only [intsR_nil, intsR_cons, intsR_app, intsR_tk, intsR_dr, intsR_st, intsR_rep, List.map_nil, List.map_cons, List.map_append, List.map_take, List.map_drop, List.map_set, List.map_replicate, List.nil_append, List.cons_append, List.append_assoc, eS_I_u8, eapi_Input, eapi_Output] at ehy5
    refine ee_seq_reg rfl (by simp [-chunk, -Cell.isSl, -callOp, callOp_eq, hT95, ehy5, c4]; rfl) ?_
    refine ee_ret ?_
    obtain rfl := Option.some.inj hr
    simp [FinQ, -chunk, -Cell.isSl, -callOp, callOp_eq, hT95, ehy5, c4]
  · skip
    rw [if_pos] at hr
    rotate_left
    · simp [c4]
    refine ee_seq_condT (by simp [bV, c4]) ?_
    refine ee_assoc ?_
    refine ee_seq_reg rfl (by simp [-chunk, -Cell.isSl, -callOp, callOp_eq, c4]; rfl) ?_
    refine ee_seq_ret ?_
    obtain rfl := Option.some.inj hr
    simp [FinQ, -chunk, -Cell.isSl, -callOp, callOp_eq, c4]
def kp122 : Keep := fun i => if i = 3 then ⟨[3, 6, 7, 8], [14], [(3, none, 14, 1)]⟩ else ⟨[], [], []⟩
theorem w122 {T : Tab} (a0 : (List (List Int))) (x : (List Int)) (hr : Lsha_row a0 = some x) : ∃ kp fl n, execFn tt T G kp fl n Tryd.f122 [.one (.slice .no (List.map eS_I_u8 a0))] = some (.one (.own 1 (intsR .u8 x)), []) := by
  refine fnE (kp := kp122) (w := true) body122 ?_
  unfold c122
  rw [Tryd.ntmps122]
  unfold Lsha_row at hr
  refine ee_seq_reg rfl (by simp [-chunk, -Cell.isSl, -callOp, callOp_eq, ]; rfl) ?_
  refine ee_seq_reg rfl (by simp [-chunk, -Cell.isSl, -callOp, callOp_eq, ]; rfl) ?_
  refine ee_assoc ?_
  refine ee_seq_reg rfl (by simp [-chunk, -Cell.isSl, -callOp, callOp_eq, ]; rfl) ?_
  refine ee_seq_block ?_
  refine ee_loop (kq := ⟨[3, 6, 7, 8], [14], [(3, none, 14, 1)]⟩) (H := fun (s : Int × (List Int)) => match s with | (p7, p8) => (⟨(und 3 ++ ([.one (.ms 14 0 0 (p8.length) 1)] ++ (und 2 ++ ([.one (.slice .no (List.map eS_I_u8 a0)), .one (.v (.int .i64 (a0.length : Int))), .one (.v (.int .i64 p7))] ++ (und 8)))) : List PV), ([(14, ⟨0, 1, intsR .u8 p8, false, true⟩)] : Boxes)⟩ : ASt)) (by kernel_rfl) hr (by simp [und, List.replicate, ]) ?_
  rintro ⟨p7, p8⟩ x13r hr13
  simp only [Lsha_row_s1] at hr13
  unfold b122_1
  simp only [und, List.replicate, List.cons_append, List.nil_append]
  refine ee_seq_reg rfl (by simp [-chunk, -Cell.isSl, -callOp, callOp_eq, ]; rfl) ?_
  by_cases c14 : p7 < (a0.length : Int)
  · skip
    have c14N := c14
    try simp at c14N
    rw [if_pos] at hr13
    rotate_left
    · simp [c14, c14N]
    refine ee_seq_condT (by simp [bV, c14, c14N]) ?_
    refine ee_seq_skip ?_
    refine ee_seq_block ?_
    obtain ⟨x15, hx15, hr13⟩ := Option.bind_eq_some_iff.1 hr13
    obtain ⟨hx15a, hx15b⟩ := idx_some hx15
    have hx15c := getE_of hx15b
    refine ee_seq_reg rfl (by simp [-chunk, -Cell.isSl, -callOp, callOp_eq, hx15a, hx15b, hx15c, c14, c14N]; rfl) ?_
    obtain ⟨_, u16, hr13⟩ := Option.bind_eq_some_iff.1 hr13
    have u16_0 := chk_some u16
    have n1_u16_0 : p8.length + x15.length ≤ 140737488355328 := by omega
    have n2_u16_0 : p8.length + x15.length ≤ 9223372036854775807 := by omega
    refine ee_reg rfl (by simp [-chunk, -Cell.isSl, -callOp, callOp_eq, n1_u16_0, n2_u16_0, c14, c14N]; rfl) ?_
    simp only [outOf, thenQ, QL, if_true, ite_true, reduceCtorEq, if_false]
    refine ee_reg rfl (by simp [-chunk, -Cell.isSl, -callOp, callOp_eq, c14, c14N]; rfl) ?_
    obtain rfl := Option.some.inj hr13
    simp only [outOf, thenQ, QL, if_true, ite_true, reduceCtorEq, if_false]
    simp [und, List.replicate, Nat.add_assoc, c14, c14N]
  · skip
    have c14N := c14
    try simp at c14N
    rw [if_neg] at hr13
    rotate_left
    · simp [c14, c14N]
    refine ee_seq_condF (by simp [bV, c14, c14N]) ?_
    refine ee_seq_exit ?_
    obtain ⟨r17, q17, rfl⟩ := Option.map_eq_some_iff.1 hr13
    simp only [outOf, thenQ, QL, if_true, ite_true, reduceCtorEq, if_false]
    rintro rfl
    try simp only [outOf, thenQ, QL, if_true, ite_true, reduceCtorEq, if_false]
    unfold Lsha_row_k1 at q17
    refine ee_seq_reg rfl (by simp [-chunk, -Cell.isSl, -callOp, callOp_eq, c14, c14N]; rfl) ?_
    refine ee_ret ?_
    obtain rfl := Option.some.inj q17
    simp [FinQ, -chunk, -Cell.isSl, -callOp, callOp_eq, c14, c14N]
def kp123 : Keep := fun i => if i = 5 then ⟨[0, 4, 18], [15], []⟩ else ⟨[], [], []⟩
theorem w123 {T : Tab} (a0 : Int) (x : (List Int)) (hr : Lsha_Pad a0 = some x) : ∃ kp fl n, execFn tt T G kp fl n Tryd.f123 [.one (.v (.int .u64 a0))] = some (.one (.own 1 (intsR .u8 x)), []) := by
  refine fnE (kp := kp123) (w := true) body123 ?_
  unfold c123
  rw [Tryd.ntmps123]
  unfold Lsha_Pad at hr
  refine ee_seq_reg rfl (by simp [-chunk, -Cell.isSl, -callOp, callOp_eq, ]; rfl) ?_
  refine ee_seq_reg rfl (by simp [-chunk, -Cell.isSl, -callOp, callOp_eq, ]; rfl) ?_
  obtain ⟨_, u15, hr⟩ := Option.bind_eq_some_iff.1 hr
  obtain ⟨u15_0, u15_1, u15_2⟩ := chk_some u15
  have mf16 : (IntKind.u64.wrap (1 + ((IntKind.u64.wrap (64 - ((IntKind.u64.wrap (a0 + 9)).tmod 64))).tmod 64))).toNat ≤ (IntKind.u64.wrap (9 + ((IntKind.u64.wrap (64 - ((IntKind.u64.wrap (a0 + 9)).tmod 64))).tmod 64))).toNat := by omega
  have mf17 : (IntKind.u64.wrap (9 + ((IntKind.u64.wrap (64 - ((IntKind.u64.wrap (a0 + 9)).tmod 64))).tmod 64))).toNat ≤ 140737488355328 := by omega
  have mf18 : (IntKind.u64.wrap (9 + ((IntKind.u64.wrap (64 - ((IntKind.u64.wrap (a0 + 9)).tmod 64))).tmod 64))).toNat ≤ 9223372036854775807 := by omega
  have mf19 : 0 ≤ IntKind.u64.wrap (9 + ((IntKind.u64.wrap (64 - ((IntKind.u64.wrap (a0 + 9)).tmod 64))).tmod 64)) := by omega
  refine ee_seq_reg rfl (by simp [-chunk, -Cell.isSl, -callOp, callOp_eq, u15_0, u15_1, u15_2, mf16, mf17, mf18, mf19]; rfl) ?_
  obtain ⟨_, u20, hr⟩ := Option.bind_eq_some_iff.1 hr
  have u20_0 := chk_some u20
  have su20_0 : 0 < IntKind.u64.wrap (1 + ((IntKind.u64.wrap (64 - ((IntKind.u64.wrap (a0 + 9)).tmod 64))).tmod 64)) := by have h := u20_0; rw [List.length_replicate] at h; omega
  refine ee_seq_reg rfl (by simp [-chunk, -Cell.isSl, -callOp, callOp_eq, u20_0, su20_0]; rfl) ?_
  refine ee_assoc ?_
  refine ee_seq_reg rfl (by simp [-chunk, -Cell.isSl, -callOp, callOp_eq, ]; rfl) ?_
  refine ee_seq_block ?_
  refine ee_loop (kq := ⟨[0, 4, 18], [15], []⟩) (H := fun (s : Int × (List Int)) => match s with | (p9, p10) => (⟨([.one (.v (.int .u64 a0))] ++ (und 3 ++ ([.one (.ms 15 0 0 (p10.length) 1)] ++ (und 13 ++ ([.one (.v (.int .i64 p9))] ++ (und 14))))) : List PV), ([(15, ⟨0, 1, intsR .u8 p10, false, true⟩)] : Boxes)⟩ : ASt)) (by kernel_rfl) hr (by simp [und, List.replicate, ]) ?_
  rintro ⟨p9, p10⟩ x21r hr21
  simp only [Lsha_Pad_s1] at hr21
  unfold b123_1
  simp only [und, List.replicate, List.cons_append, List.nil_append]
  refine ee_seq_reg rfl (by simp [-chunk, -Cell.isSl, -callOp, callOp_eq, ]; rfl) ?_
  by_cases c22 : p9 < 8
  · skip
    rw [if_pos] at hr21
    rotate_left
    · simp [c22]
    refine ee_seq_condT (by simp [bV, c22]) ?_
    refine ee_seq_skip ?_
    refine ee_seq_block ?_
    refine ee_seq_reg rfl (by simp [-chunk, -Cell.isSl, -callOp, callOp_eq, c22]; rfl) ?_
    obtain ⟨_, u23, hr21⟩ := Option.bind_eq_some_iff.1 hr21
    have u23_0 := chk_some u23
    obtain ⟨_, u24, hr21⟩ := Option.bind_eq_some_iff.1 hr21
    have u24_0 := chk_some u24
    have n1_u24_0 : p10.length + 1 ≤ 140737488355328 := by omega
    have n2_u24_0 : p10.length + 1 ≤ 9223372036854775807 := by omega
    refine ee_reg rfl (by simp [-chunk, -Cell.isSl, -callOp, callOp_eq, u23_0, n1_u24_0, n2_u24_0, c22]; rfl) ?_
    simp only [outOf, thenQ, QL, if_true, ite_true, reduceCtorEq, if_false]
    refine ee_reg rfl (by simp [-chunk, -Cell.isSl, -callOp, callOp_eq, c22]; rfl) ?_
    obtain rfl := Option.some.inj hr21
    simp only [outOf, thenQ, QL, if_true, ite_true, reduceCtorEq, if_false]
    simp [und, List.replicate, Nat.add_assoc, c22]
  · skip
    rw [if_neg] at hr21
    rotate_left
    · simp [c22]
    refine ee_seq_condF (by simp [bV, c22]) ?_
    refine ee_seq_exit ?_
    obtain ⟨r25, q25, rfl⟩ := Option.map_eq_some_iff.1 hr21
    simp only [outOf, thenQ, QL, if_true, ite_true, reduceCtorEq, if_false]
    rintro rfl
    try simp only [outOf, thenQ, QL, if_true, ite_true, reduceCtorEq, if_false]
    unfold Lsha_Pad_k1 at q25
    refine ee_seq_reg rfl (by simp [-chunk, -Cell.isSl, -callOp, callOp_eq, c22]; rfl) ?_
    refine ee_ret ?_
    obtain rfl := Option.some.inj q25
    simp [FinQ, -chunk, -Cell.isSl, -callOp, callOp_eq, c22]
def kp125 : Keep := fun i => ⟨[], [], []⟩
theorem w125 {T : Tab} (a0 : Int) (a1 : Int) (x : Int) (hr : Lmath_bits_RotateLeft32 a0 a1 = some x) : ∃ kp fl n, execFn tt T G kp fl n Tryd.f125 [.one (.v (.int .u32 a0)), .one (.v (.int .i64 a1))] = some (.one (.v (.int .u32 x)), []) := by
  refine fnE (kp := kp125) (w := false) body125 ?_
  unfold c125
  rw [Tryd.ntmps125]
  unfold Lmath_bits_RotateLeft32 at hr
  refine ee_seq_reg rfl (by simp [-chunk, -Cell.isSl, -callOp, callOp_eq, ]; rfl) ?_
  refine ee_seq_reg rfl (by simp [-chunk, -Cell.isSl, -callOp, callOp_eq, ]; rfl) ?_
  obtain ⟨_, u3, hr⟩ := Option.bind_eq_some_iff.1 hr
  have u3_0 := chk_some u3
  obtain ⟨_, u4, hr⟩ := Option.bind_eq_some_iff.1 hr
  have u4_0 := chk_some u4
  refine ee_seq_reg rfl (by simp [-chunk, -Cell.isSl, -callOp, callOp_eq, u3_0, u4_0]; rfl) ?_
  refine ee_ret ?_
  obtain rfl := Option.some.inj hr
  simp [FinQ, -chunk, -Cell.isSl, -callOp, callOp_eq, u3_0, u4_0]
def kp127 : Keep := fun i => ⟨[], [], []⟩
theorem w127 {T : Tab} (hT125 : T 125 = some G_Lmath_bits_RotateLeft32) (a0 : Int) (a1 : Int) (x : Int) (hr : Lsha_rotr a0 a1 = some x) : ∃ kp fl n, execFn tt T G kp fl n Tryd.f127 [.one (.v (.int .u32 a0)), .one (.v (.int .i64 a1))] = some (.one (.v (.int .u32 x)), []) := by
  refine fnE (kp := kp127) (w := false) body127 ?_
  unfold c127
  rw [Tryd.ntmps127]
  unfold Lsha_rotr at hr
  refine ee_seq_reg rfl (by simp [-chunk, -Cell.isSl, -callOp, callOp_eq, ]; rfl) ?_
  obtain ⟨y2, hy2, hr⟩ := Option.bind_eq_some_iff.1 hr
  have ehy2 := G_Lmath_bits_RotateLeft32_eq hy2
  try simp only [intsR_nil, intsR_cons, intsR_app, intsR_tk, intsR_dr, intsR_st, intsR_rep, List.map_nil, List.map_cons, List.map_append, List.map_take, List.map_drop, List.map_set, List.map_replicate, List.nil_append, List.cons_append, List.append_assoc, eS_I_u8, eapi_Input, eapi_Output] at ehy2
  refine ee_seq_reg rfl (by simp [-chunk, -Cell.isSl, -callOp, callOp_eq, hT125, ehy2]; rfl) ?_
  refine ee_ret ?_
  obtain rfl := Option.some.inj hr
  simp [FinQ, -chunk, -Cell.isSl, -callOp, callOp_eq, hT125, ehy2]
def kp126 : Keep := fun i => if i = 3 then ⟨[1, 2, 3, 9], [1, 2, 3], []⟩ else if i = 6 then ⟨[1, 2, 3, 4, 9, 12], [1, 2, 3], []⟩ else if i = 12 then ⟨[2, 3, 6], [2, 3], []⟩ else ⟨[], [], []⟩
theorem w126 {T : Tab} (hT127 : T 127 = some G_Lsha_rotr) (a0 : (Arr 64)) (x : (Arr 64)) (hr : Lsha_schedule a0 = some x) : ∃ kp fl n, execFn tt T G kp fl n Tryd.f126 [.agg (arC .u8 a0)] = some (.agg (arC .u32 x), []) := by
  refine fnE (kp := kp126) (w := false) body126 ?_
  unfold c126
  rw [Tryd.ntmps126]
  unfold Lsha_schedule at hr
  refine ee_seq_reg rfl (by simp [-chunk, -Cell.isSl, -callOp, callOp_eq, ]; rfl) ?_
  refine ee_seq_reg rfl (by simp [-chunk, -Cell.isSl, -callOp, callOp_eq, ]; rfl) ?_
  refine ee_assoc ?_
  refine ee_seq_reg rfl (by simp [-chunk, -Cell.isSl, -callOp, callOp_eq, ]; rfl) ?_
  refine ee_seq_block ?_
  refine ee_loop (kq := ⟨[1, 2, 3, 9], [1, 2, 3], []⟩) (H := fun (s : Int × (Arr 64)) => match s with | (p20, p21) => (⟨(und 1 ++ ([.ptr 1 0 0 0 64, .ptr 2 0 0 0 64, .ptr 3 0 0 0 64] ++ (und 5 ++ ([.one (.v (.int .i64 p20))] ++ (und 75)))) : List PV), ([(1, ⟨0, 64, [arC .u8 a0], false, false⟩), (2, ⟨0, 64, [arC .u32 (zA 64)], false, false⟩), (3, ⟨0, 64, [arC .u32 p21], false, false⟩)] : Boxes)⟩ : ASt)) (by kernel_rfl) hr (by simp [und, List.replicate, ]) ?_
  rintro ⟨p20, p21⟩ x83r hr83
  simp only [Lsha_schedule_s1] at hr83
  unfold b126_1
  simp only [und, List.replicate, List.cons_append, List.nil_append]
  refine ee_seq_reg rfl (by simp [-chunk, -Cell.isSl, -callOp, callOp_eq, ]; rfl) ?_
  by_cases c84 : p20 < 16
  · skip
    rw [if_pos] at hr83
    rotate_left
    · simp [c84]
    refine ee_seq_condT (by simp [bV, c84]) ?_
    refine ee_seq_skip ?_
    refine ee_seq_block ?_
    refine ee_seq_reg rfl (by simp [-chunk, -Cell.isSl, -callOp, callOp_eq, c84]; rfl) ?_
    refine ee_seq_reg rfl (by simp [-chunk, -Cell.isSl, -callOp, callOp_eq, c84]; rfl) ?_
    refine ee_block ?_
    refine ee_loop (kq := ⟨[1, 2, 3, 4, 9, 12], [1, 2, 3], []⟩) (H := fun (s : Int × (Arr 64)) => match s with | (p77, p78) => (⟨(und 1 ++ ([.ptr 1 0 0 0 64, .ptr 2 0 0 0 64, .ptr 3 0 0 0 64, .one (.v (.int .i64 p20))] ++ (und 4 ++ ([.one (.v (.int .i64 p20))] ++ (und 2 ++ ([.one (.v (.int .i64 p77))] ++ (und 72)))))) : List PV), ([(1, ⟨0, 64, [arC .u8 a0], false, false⟩), (2, ⟨0, 64, [arC .u32 (zA 64)], false, false⟩), (3, ⟨0, 64, [arC .u32 p78], false, false⟩)] : Boxes)⟩ : ASt)) (by kernel_rfl) hr83 (by simp [und, List.replicate, c84]) ?_
    rintro ⟨p77, p78⟩ x85r hr85
    simp only [Lsha_schedule_s3] at hr85
    unfold b126_2
    simp only [und, List.replicate, List.cons_append, List.nil_append]
    refine ee_seq_reg rfl (by simp [-chunk, -Cell.isSl, -callOp, callOp_eq, c84]; rfl) ?_
    by_cases c86 : p77 < 4
    · skip
      rw [if_pos] at hr85
      rotate_left
      · simp [c84, c86]
      refine ee_seq_condT (by simp [bV, c84, c86]) ?_
      refine ee_seq_skip ?_
      refine ee_seq_block ?_
      refine ee_seq_reg rfl (by simp [-chunk, -Cell.isSl, -callOp, callOp_eq, c84, c86]; rfl) ?_
      obtain ⟨j87, hj87, hr85⟩ := Option.bind_eq_some_iff.1 hr85
      obtain ⟨j87a, j87b, j87c⟩ := inA_some hj87
      have j87d : j87 ≤ 63 := by omega
      have ar88 := arC_get (k := .u32) (p78) (i := j87) j87c
      have as89 := arC_sub (k := .u32) (p78) (i := j87) j87c
      obtain ⟨j90, hj90, hr85⟩ := Option.bind_eq_some_iff.1 hr85
      obtain ⟨j90a, j90b, j90c⟩ := inA_some hj90
      have j90d : j90 ≤ 63 := by omega
      have ar91 := arC_get (k := .u8) (a0) (i := j90) j90c
      have as92 := arC_sub (k := .u8) (a0) (i := j90) j90c
      obtain ⟨j87a, j87b, j87c⟩ := inA_some hj87
      have j87d : j87 ≤ 63 := by omega
      have ap93 := arC_put (k := .u32) (p78) (i := j87) j87c (bits .or .u32 (IntKind.u32.wrap ((p78.at j87) * 256)) (IntKind.u32.wrap (a0.at j90)))
      refine ee_draw rfl (by simp [-chunk, -Cell.isSl, -callOp, callOp_eq, j87a, j87b, j87c, j87d, ar88, as89, j90a, j90b, j90c, j90d, ar91, as92, ap93, c84, c86]; first | exact ⟨rfl, rfl⟩ | rfl) (by kernel_rfl) ?_
      simp only [outOf, thenQ, QL, if_true, ite_true, reduceCtorEq, if_false]
      refine ee_reg rfl (by simp [-chunk, -Cell.isSl, -callOp, callOp_eq, c84, c86]; rfl) ?_
      obtain rfl := Option.some.inj hr85
      simp only [outOf, thenQ, QL, if_true, ite_true, reduceCtorEq, if_false]
      simp [und, List.replicate, Nat.add_assoc, c84, c86]
    · skip
      rw [if_neg] at hr85
      rotate_left
      · simp [c84, c86]
      refine ee_seq_condF (by simp [bV, c84, c86]) ?_
      refine ee_seq_exit ?_
      obtain ⟨r94, q94, rfl⟩ := Option.map_eq_some_iff.1 hr85
      simp only [outOf, thenQ, QL, if_true, ite_true, reduceCtorEq, if_false]
      rintro rfl
      try simp only [outOf, thenQ, QL, if_true, ite_true, reduceCtorEq, if_false]
      unfold Lsha_schedule_k3 at q94
      refine ee_reg rfl (by simp [-chunk, -Cell.isSl, -callOp, callOp_eq, c84, c86]; rfl) ?_
      obtain rfl := Option.some.inj q94
      simp only [outOf, thenQ, QL, if_true, ite_true, reduceCtorEq, if_false]
      simp [und, List.replicate, Nat.add_assoc, c84, c86]
  · skip
    rw [if_neg] at hr83
    rotate_left
    · simp [c84]
    refine ee_seq_condF (by simp [bV, c84]) ?_
    refine ee_seq_exit ?_
    obtain ⟨r95, q95, rfl⟩ := Option.map_eq_some_iff.1 hr83
    simp only [outOf, thenQ, QL, if_true, ite_true, reduceCtorEq, if_false]
    rintro rfl
    try simp only [outOf, thenQ, QL, if_true, ite_true, reduceCtorEq, if_false]
    unfold Lsha_schedule_k1 at q95
    refine ee_assoc ?_
    refine ee_seq_reg rfl (by simp [-chunk, -Cell.isSl, -callOp, callOp_eq, c84]; rfl) ?_
    refine ee_seq_block ?_
    refine ee_loop (kq := ⟨[2, 3, 6], [2, 3], []⟩) (H := fun (s : Int × (Arr 64)) => match s with | (p51, p52) => (⟨(und 2 ++ ([.ptr 2 0 0 0 64, .ptr 3 0 0 0 64] ++ (und 2 ++ ([.one (.v (.int .i64 p51))] ++ (und 78)))) : List PV), ([(2, ⟨0, 64, [arC .u32 (zA 64)], false, false⟩), (3, ⟨0, 64, [arC .u32 p52], false, false⟩)] : Boxes)⟩ : ASt)) (by kernel_rfl) q95 (by simp [und, List.replicate, c84]) ?_
    rintro ⟨p51, p52⟩ x96r hr96
    simp only [Lsha_schedule_s2] at hr96
    unfold b126_3
    simp only [und, List.replicate, List.cons_append, List.nil_append]
    refine ee_assoc ?_
    refine ee_seq_reg rfl (by simp [-chunk, -Cell.isSl, -callOp, callOp_eq, c84]; rfl) ?_
    by_cases c97 : p51 < 64
    · skip
      rw [if_pos] at hr96
      rotate_left
      · simp [c84, c97]
      refine ee_seq_condT (by simp [bV, c84, c97]) ?_
      refine ee_seq_skip ?_
      refine ee_seq_block ?_
      obtain ⟨j98, hj98, hr96⟩ := Option.bind_eq_some_iff.1 hr96
      obtain ⟨j98a, j98b, j98c⟩ := inA_some hj98
      have j98d : j98 ≤ 63 := by omega
      have ar99 := arC_get (k := .u32) (p52) (i := j98) j98c
      have as100 := arC_sub (k := .u32) (p52) (i := j98) j98c
      obtain ⟨y101, hy101, hr96⟩ := Option.bind_eq_some_iff.1 hr96
      have ehy101 := G_Lsha_rotr_eq hy101
      try simp only [intsR_nil, intsR_cons, intsR_app, intsR_tk, intsR_dr, intsR_st, intsR_rep, List.map_nil, List.map_cons, List.map_append, List.map_take, List.map_drop, List.map_set, List.map_replicate, List.nil_append, List.cons_append, List.append_assoc, eS_I_u8, eapi_Input, eapi_Output] at ehy101
      obtain ⟨j98a, j98b, j98c⟩ := inA_some hj98
      have j98d : j98 ≤ 63 := by omega
      have ar102 := arC_get (k := .u32) (p52) (i := j98) j98c
      have as103 := arC_sub (k := .u32) (p52) (i := j98) j98c
      obtain ⟨y104, hy104, hr96⟩ := Option.bind_eq_some_iff.1 hr96
      have ehy104 := G_Lsha_rotr_eq hy104
      try simp only [intsR_nil, intsR_cons, intsR_app, intsR_tk, intsR_dr, intsR_st, intsR_rep, List.map_nil, List.map_cons, List.map_append, List.map_take, List.map_drop, List.map_set, List.map_replicate, List.nil_append, List.cons_append, List.append_assoc, eS_I_u8, eapi_Input, eapi_Output] at ehy104
      obtain ⟨j98a, j98b, j98c⟩ := inA_some hj98
      have j98d : j98 ≤ 63 := by omega
      have ar105 := arC_get (k := .u32) (p52) (i := j98) j98c
      have as106 := arC_sub (k := .u32) (p52) (i := j98) j98c
      refine ee_seq_draw rfl (by simp [-chunk, -Cell.isSl, -callOp, callOp_eq, j98a, j98b, j98c, j98d, ar99, as100, hT127, ehy101, ar102, as103, ehy104, ar105, as106, c84, c97]; first | exact ⟨rfl, rfl⟩ | rfl) (by kernel_rfl) ?_
      obtain ⟨j107, hj107, hr96⟩ := Option.bind_eq_some_iff.1 hr96
      obtain ⟨j107a, j107b, j107c⟩ := inA_some hj107
      have j107d : j107 ≤ 63 := by omega
      have ar108 := arC_get (k := .u32) (p52) (i := j107) j107c
      have as109 := arC_sub (k := .u32) (p52) (i := j107) j107c
      obtain ⟨y110, hy110, hr96⟩ := Option.bind_eq_some_iff.1 hr96
      have ehy110 := G_Lsha_rotr_eq hy110
      try simp only [intsR_nil, intsR_cons, intsR_app, intsR_tk, intsR_dr, intsR_st, intsR_rep, List.map_nil, List.map_cons, List.map_append, List.map_take, List.map_drop, List.map_set, List.map_replicate, List.nil_append, List.cons_append, List.append_assoc, eS_I_u8, eapi_Input, eapi_Output] at ehy110
      obtain ⟨j107a, j107b, j107c⟩ := inA_some hj107
      have j107d : j107 ≤ 63 := by omega
      have ar111 := arC_get (k := .u32) (p52) (i := j107) j107c
      have as112 := arC_sub (k := .u32) (p52) (i := j107) j107c
      obtain ⟨y113, hy113, hr96⟩ := Option.bind_eq_some_iff.1 hr96
      have ehy113 := G_Lsha_rotr_eq hy113
      try simp only [intsR_nil, intsR_cons, intsR_app, intsR_tk, intsR_dr, intsR_st, intsR_rep, List.map_nil, List.map_cons, List.map_append, List.map_take, List.map_drop, List.map_set, List.map_replicate, List.nil_append, List.cons_append, List.append_assoc, eS_I_u8, eapi_Input, eapi_Output] at ehy113
      obtain ⟨j107a, j107b, j107c⟩ := inA_some hj107
      have j107d : j107 ≤ 63 := by omega
      have ar114 := arC_get (k := .u32) (p52) (i := j107) j107c
      have as115 := arC_sub (k := .u32) (p52) (i := j107) j107c
      refine ee_seq_draw rfl (by simp [-chunk, -Cell.isSl, -callOp, callOp_eq, j107a, j107b, j107c, j107d, ar108, as109, hT127, ehy110, ar111, as112, ehy113, ar114, as115, c84, c97]; first | exact ⟨rfl, rfl⟩ | rfl) (by kernel_rfl) ?_
      obtain ⟨j116, hj116, hr96⟩ := Option.bind_eq_some_iff.1 hr96
      obtain ⟨j116a, j116b, j116c⟩ := inA_some hj116
      have j116d : j116 ≤ 63 := by omega
      have ar117 := arC_get (k := .u32) (p52) (i := j116) j116c
      have as118 := arC_sub (k := .u32) (p52) (i := j116) j116c
      obtain ⟨j119, hj119, hr96⟩ := Option.bind_eq_some_iff.1 hr96
      obtain ⟨j119a, j119b, j119c⟩ := inA_some hj119
      have j119d : j119 ≤ 63 := by omega
      have ar120 := arC_get (k := .u32) (p52) (i := j119) j119c
      have as121 := arC_sub (k := .u32) (p52) (i := j119) j119c
      obtain ⟨j122, hj122, hr96⟩ := Option.bind_eq_some_iff.1 hr96
      obtain ⟨j122a, j122b, j122c⟩ := inA_some hj122
      have j122d : j122 ≤ 63 := by omega
      have ap123 := arC_put (k := .u32) (p52) (i := j122) j122c (IntKind.u32.wrap ((IntKind.u32.wrap ((IntKind.u32.wrap ((p52.at j116) + (bits .xor .u32 (bits .xor .u32 y101 y104) ((p52.at j98).fdiv 8)))) + (p52.at j119))) + (bits .xor .u32 (bits .xor .u32 y110 y113) ((p52.at j107).fdiv 1024))))
      refine ee_draw rfl (by simp [-chunk, -Cell.isSl, -callOp, callOp_eq, j116a, j116b, j116c, j116d, ar117, as118, j119a, j119b, j119c, j119d, ar120, as121, j122a, j122b, j122c, j122d, ap123, c84, c97]; first | exact ⟨rfl, rfl⟩ | rfl) (by kernel_rfl) ?_
      simp only [outOf, thenQ, QL, if_true, ite_true, reduceCtorEq, if_false]
      refine ee_reg rfl (by simp [-chunk, -Cell.isSl, -callOp, callOp_eq, c84, c97]; rfl) ?_
      obtain rfl := Option.some.inj hr96
      simp only [outOf, thenQ, QL, if_true, ite_true, reduceCtorEq, if_false]
      simp [und, List.replicate, Nat.add_assoc, c84, c97]
    · skip
      rw [if_neg] at hr96
      rotate_left
      · simp [c84, c97]
      refine ee_seq_condF (by simp [bV, c84, c97]) ?_
      refine ee_seq_exit ?_
      obtain ⟨r124, q124, rfl⟩ := Option.map_eq_some_iff.1 hr96
      simp only [outOf, thenQ, QL, if_true, ite_true, reduceCtorEq, if_false]
      rintro rfl
      try simp only [outOf, thenQ, QL, if_true, ite_true, reduceCtorEq, if_false]
      unfold Lsha_schedule_k2 at q124
      refine ee_seq_reg rfl (by simp [-chunk, -Cell.isSl, -callOp, callOp_eq, c84, c97]; rfl) ?_
      refine ee_ret ?_
      obtain rfl := Option.some.inj q124
      simp [FinQ, -chunk, -Cell.isSl, -callOp, callOp_eq, c84, c97]
end Go.Proofs.YtconfbgcjkjnkaaDoor
