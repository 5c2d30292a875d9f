import Derived.Test.YtanhccemhpmnhaaLfK
import Derived.Test.YtanhccemhpmnhaaCode
namespace Go.Proofs.Ytanhccemhpmnhaa
open Go.RowKit
open Go.Av
open Go.Lc
set_option maxRecDepth 100000
set_option linter.unusedSimpArgs false
set_option linter.unusedVariables false
variable {G : Glob}
def kp35 : Keep := fun i => if i = 9 then ⟨[1, 3, 25, 26, 27], [1, 1000000000023], []⟩ else ⟨[], [], []⟩
theorem w35 {T : Tab} (hT36 : T 36 = some G_Ltx_Coinbase) (hT46 : T 46 = some G_Ltx_fits) (hT50 : T 50 = some G_Ltx_money) (a0 : Tapi_Tx) (x : Int) (hr : Ltx_Check a0 = some x) : ∃ kp fl n, execFn tt T G kp fl n Try.f35 [.agg ([.v (.int .u32 a0.1), .slice .no (List.map eapi_Input a0.2.1), .slice .no (List.map eapi_Output a0.2.2.1), .v (.int .u32 a0.2.2.2)])] = some (.one (.v (.int .i64 x)), []) := by
  refine fnE (kp := kp35) (w := false) body35 ?_
  unfold c35
  rw [Try.ntmps35]
  unfold Ltx_Check at hr
  refine ee_seq_reg rfl (by simp [-chunk, -Cell.isSl, -callOp, callOp_eq, ]; rfl) ?_
  refine ee_assoc ?_
  obtain ⟨y13, hy13, hr⟩ := Option.bind_eq_some_iff.1 hr
  have ehy13 := G_Ltx_fits_eq hy13
  try simp only [intsR_nil, intsR_cons, intsR_app, intsR_tk, intsR_dr, intsR_st, intsR_rep, List.map_nil, List.map_cons, List.map_append, List.map_take, List.map_drop, List.map_set, List.map_replicate, List.nil_append, List.cons_append, List.append_assoc, eapi_Input, eapi_Output, eapi_Spendable, eS_I_u8, eapi_Coin] at ehy13
  refine ee_seq_reg rfl (by simp [-chunk, -Cell.isSl, -callOp, callOp_eq, hT46, ehy13]; rfl) ?_
  by_cases c14 : y13 = true
  · skip
    rw [if_neg] at hr
    rotate_left
    · simp [c14]
    refine ee_seq_condF (by simp [bV, c14]) ?_
    refine ee_seq_skip ?_
    refine ee_assoc ?_
    by_cases c15 : (a0.2.1.length : Int) = 0
    · skip
      have c15N := c15
      try simp at c15N
      refine ee_seq_reg rfl (by simp [-chunk, -Cell.isSl, -callOp, callOp_eq, c14, eq_true c15, eq_true c15N]; rfl) ?_
      rw [if_pos] at hr
      rotate_left
      · simp [c14, eq_true c15, eq_true c15N]
      refine ee_seq_condT (by simp [bV, c14, eq_true c15, eq_true c15N]) ?_
      refine ee_assoc ?_
      refine ee_seq_reg rfl (by simp [-chunk, -Cell.isSl, -callOp, callOp_eq, c14, eq_true c15, eq_true c15N]; rfl) ?_
      refine ee_seq_ret ?_
      obtain rfl := Option.some.inj hr
      simp [FinQ, -chunk, -Cell.isSl, -callOp, callOp_eq, c14, eq_true c15, eq_true c15N]
    · skip
      have c15N := c15
      try simp at c15N
      refine ee_seq_reg rfl (by simp [-chunk, -Cell.isSl, -callOp, callOp_eq, c14, c15, c15N]; rfl) ?_
      by_cases c16 : (a0.2.2.1.length : Int) = 0
      · skip
        have c16N := c16
        try simp at c16N
        rw [if_pos] at hr
        rotate_left
        · simp [c14, c15, c15N, eq_true c16, eq_true c16N]
        refine ee_seq_condT (by simp [bV, c14, c15, c15N, eq_true c16, eq_true c16N]) ?_
        refine ee_assoc ?_
        refine ee_seq_reg rfl (by simp [-chunk, -Cell.isSl, -callOp, callOp_eq, c14, c15, c15N, eq_true c16, eq_true c16N]; rfl) ?_
        refine ee_seq_ret ?_
        obtain rfl := Option.some.inj hr
        simp [FinQ, -chunk, -Cell.isSl, -callOp, callOp_eq, c14, c15, c15N, eq_true c16, eq_true c16N]
      · skip
        have c16N := c16
        try simp at c16N
        rw [if_neg] at hr
        rotate_left
        · simp [c14, c15, c15N, c16, c16N]
        refine ee_seq_condF (by simp [bV, c14, c15, c15N, c16, c16N]) ?_
        refine ee_seq_skip ?_
        refine ee_assoc ?_
        obtain ⟨y17, hy17, hr⟩ := Option.bind_eq_some_iff.1 hr
        have ehy17 := G_Ltx_money_eq hy17
        try simp only [intsR_nil, intsR_cons, intsR_app, intsR_tk, intsR_dr, intsR_st, intsR_rep, List.map_nil, List.map_cons, List.map_append, List.map_take, List.map_drop, List.map_set, List.map_replicate, List.nil_append, List.cons_append, List.append_assoc, eapi_Input, eapi_Output, eapi_Spendable, eS_I_u8, eapi_Coin] at ehy17
        refine ee_seq_reg rfl (by simp [-chunk, -Cell.isSl, -callOp, callOp_eq, hT50, ehy17, c14, c15, c15N, c16, c16N]; rfl) ?_
        by_cases c18 : y17 = true
        · skip
          rw [if_neg] at hr
          rotate_left
          · simp [c14, c15, c15N, c16, c16N, c18]
          refine ee_seq_condF (by simp [bV, c14, c15, c15N, c16, c16N, c18]) ?_
          refine ee_seq_skip ?_
          refine ee_seq_reg rfl (by simp [-chunk, -Cell.isSl, -callOp, callOp_eq, c14, c15, c15N, c16, c16N, c18]; rfl) ?_
          refine ee_assoc ?_
          refine ee_seq_reg rfl (by simp [-chunk, -Cell.isSl, -callOp, callOp_eq, c14, c15, c15N, c16, c16N, c18]; rfl) ?_
          refine ee_seq_block ?_
          refine ee_loop (kq := ⟨[1, 3, 25, 26, 27], [1, 1000000000023], []⟩) (H := fun (s : Int × (List (Tapi_OutPoint × Bool))) => match s with | (p7, p8) => (⟨(und 1 ++ ([.ptr 1 0 0 0 4] ++ (und 1 ++ ([.one (.mp 1000000000023 0)] ++ (und 21 ++ ([.one (.slice .no (List.map eapi_Input a0.2.1)), .one (.v (.int .i64 (a0.2.1.length : Int))), .one (.v (.int .i64 p7))] ++ (und 19)))))) : List PV), ([(1, ⟨0, 4, [[.v (.int .u32 a0.1), .slice .no (List.map eapi_Input a0.2.1), .slice .no (List.map eapi_Output a0.2.2.1), .v (.int .u32 a0.2.2.2)]], false, false⟩), (1000000000023, ⟨0, 6, ((arC .u8 (zA 32)) ++ ((.v (.int .u32 0)) :: [])) :: List.map eM_api_OutPoint_B p8, false, false⟩)] : Boxes)⟩ : ASt)) (by kernel_rfl) hr (by simp [und, List.replicate, c14, c15, c15N, c16, c16N, c18]) ?_
          rintro ⟨p7, p8⟩ x19r hr19
          simp only [Ltx_Check_s1] at hr19
          unfold b35_1
          simp only [und, List.replicate, List.cons_append, List.nil_append]
          refine ee_seq_reg rfl (by simp [-chunk, -Cell.isSl, -callOp, callOp_eq, c14, c15, c15N, c16, c16N, c18]; rfl) ?_
          by_cases c20 : p7 < (a0.2.1.length : Int)
          · skip
            have c20N := c20
            try simp at c20N
            rw [if_pos] at hr19
            rotate_left
            · simp [c14, c15, c15N, c16, c16N, c18, c20, c20N]
            refine ee_seq_condT (by simp [bV, c14, c15, c15N, c16, c16N, c18, c20, c20N]) ?_
            refine ee_seq_skip ?_
            refine ee_seq_block ?_
            obtain ⟨x21, hx21, hr19⟩ := Option.bind_eq_some_iff.1 hr19
            obtain ⟨hx21a, hx21b⟩ := idx_some hx21
            have hx21c := getE_of hx21b
            refine ee_seq_reg rfl (by simp [-chunk, -Cell.isSl, -callOp, callOp_eq, hx21a, hx21b, hx21c, c14, c15, c15N, c16, c16N, c18, c20, c20N]; rfl) ?_
            refine ee_assoc ?_
            refine ee_seq_reg rfl (by simp [-chunk, -Cell.isSl, -callOp, callOp_eq, c14, c15, c15N, c16, c16N, c18, c20, c20N]; rfl) ?_
            by_cases c22 : (mget x21.1 p8).getD false = true
            · skip
              rw [if_pos] at hr19
              rotate_left
              · simp [c14, c15, c15N, c16, c16N, c18, c20, c20N, c22]
              refine ee_seq_condT (by simp [bV, c14, c15, c15N, c16, c16N, c18, c20, c20N, c22]) ?_
              refine ee_assoc ?_
              refine ee_seq_reg rfl (by simp [-chunk, -Cell.isSl, -callOp, callOp_eq, c14, c15, c15N, c16, c16N, c18, c20, c20N, c22]; rfl) ?_
              refine ee_seq_ret ?_
              obtain rfl := Option.some.inj hr19
              simp only [outOf, thenQ, QL, if_true, ite_true, reduceCtorEq, if_false]
              rintro rfl
              simp [FinQ, -chunk, -Cell.isSl, -callOp, callOp_eq, c14, c15, c15N, c16, c16N, c18, c20, c20N, c22]
            · skip
              rw [if_neg] at hr19
              rotate_left
              · simp [c14, c15, c15N, c16, c16N, c18, c20, c20N, c22]
              refine ee_seq_condF (by simp [bV, c14, c15, c15N, c16, c16N, c18, c20, c20N, c22]) ?_
              refine ee_seq_skip ?_
              refine ee_reg rfl (by simp [-chunk, -Cell.isSl, -callOp, callOp_eq, c14, c15, c15N, c16, c16N, c18, c20, c20N, c22]; rfl) ?_
              simp only [outOf, thenQ, QL, if_true, ite_true, reduceCtorEq, if_false]
              refine ee_reg rfl (by simp [-chunk, -Cell.isSl, -callOp, callOp_eq, c14, c15, c15N, c16, c16N, c18, c20, c20N, c22]; rfl) ?_
              obtain rfl := Option.some.inj hr19
              simp only [outOf, thenQ, QL, if_true, ite_true, reduceCtorEq, if_false]
              simp [und, List.replicate, Nat.add_assoc, c14, c15, c15N, c16, c16N, c18, c20, c20N, c22]
          · skip
            have c20N := c20
            try simp at c20N
            rw [if_neg] at hr19
            rotate_left
            · simp [c14, c15, c15N, c16, c16N, c18, c20, c20N]
            refine ee_seq_condF (by simp [bV, c14, c15, c15N, c16, c16N, c18, c20, c20N]) ?_
            refine ee_seq_exit ?_
            obtain ⟨r23, q23, rfl⟩ := Option.map_eq_some_iff.1 hr19
            simp only [outOf, thenQ, QL, if_true, ite_true, reduceCtorEq, if_false]
            rintro rfl
            try simp only [outOf, thenQ, QL, if_true, ite_true, reduceCtorEq, if_false]
            unfold Ltx_Check_k1 at q23
            refine ee_assoc ?_
            by_cases c24 : (mget (zA 32, 4294967295) p8).getD false = true
            · skip
              rw [if_pos] at q23
              rotate_left
              · simp [c14, c15, c15N, c16, c16N, c18, c20, c20N, c24]
              obtain ⟨z25, hz25, q23⟩ := Option.bind_eq_some_iff.1 q23
              obtain ⟨y26, hy26, hz25⟩ := Option.bind_eq_some_iff.1 hz25
              have ehy26 := G_Ltx_Coinbase_eq hy26
              try simp only [intsR_nil, intsR_cons, intsR_app, intsR_tk, intsR_dr, intsR_st, intsR_rep, List.map_nil, List.map_cons, List.map_append, List.map_take, List.map_drop, List.map_set, List.map_replicate, List.nil_append, List.cons_append, List.append_assoc, eapi_Input, eapi_Output, eapi_Spendable, eS_I_u8, eapi_Coin] at ehy26
              obtain rfl := Option.some.inj hz25
              refine ee_seq_reg rfl (by simp [-chunk, -Cell.isSl, -callOp, callOp_eq, hT36, ehy26, c14, c15, c15N, c16, c16N, c18, c20, c20N, c24]; rfl) ?_
              by_cases c27 : y26 = true
              · skip
                rw [if_neg] at q23
                rotate_left
                · simp [c14, c15, c15N, c16, c16N, c18, c20, c20N, c24, c27]
                refine ee_seq_condF (by simp [bV, c14, c15, c15N, c16, c16N, c18, c20, c20N, c24, c27]) ?_
                refine ee_seq_skip ?_
                refine ee_seq_reg rfl (by simp [-chunk, -Cell.isSl, -callOp, callOp_eq, c14, c15, c15N, c16, c16N, c18, c20, c20N, c24, c27]; rfl) ?_
                refine ee_ret ?_
                obtain rfl := Option.some.inj q23
                simp [FinQ, -chunk, -Cell.isSl, -callOp, callOp_eq, c14, c15, c15N, c16, c16N, c18, c20, c20N, c24, c27]
              · skip
                rw [if_pos] at q23
                rotate_left
                · simp [c14, c15, c15N, c16, c16N, c18, c20, c20N, c24, c27]
                refine ee_seq_condT (by simp [bV, c14, c15, c15N, c16, c16N, c18, c20, c20N, c24, c27]) ?_
                refine ee_assoc ?_
                refine ee_seq_reg rfl (by simp [-chunk, -Cell.isSl, -callOp, callOp_eq, c14, c15, c15N, c16, c16N, c18, c20, c20N, c24, c27]; rfl) ?_
                refine ee_seq_ret ?_
                obtain rfl := Option.some.inj q23
                simp [FinQ, -chunk, -Cell.isSl, -callOp, callOp_eq, c14, c15, c15N, c16, c16N, c18, c20, c20N, c24, c27]
            · skip
              rw [if_neg] at q23
              rotate_left
              · simp [c14, c15, c15N, c16, c16N, c18, c20, c20N, c24]
              obtain ⟨z28, hz28, q23⟩ := Option.bind_eq_some_iff.1 q23
              obtain rfl := Option.some.inj hz28
              refine ee_seq_reg rfl (by simp [-chunk, -Cell.isSl, -callOp, callOp_eq, c14, c15, c15N, c16, c16N, c18, c20, c20N, c24]; rfl) ?_
              rw [if_neg] at q23
              rotate_left
              · simp [c14, c15, c15N, c16, c16N, c18, c20, c20N, c24]
              refine ee_seq_condF (by simp [bV, c14, c15, c15N, c16, c16N, c18, c20, c20N, c24]) ?_
              refine ee_seq_skip ?_
              refine ee_seq_reg rfl (by simp [-chunk, -Cell.isSl, -callOp, callOp_eq, c14, c15, c15N, c16, c16N, c18, c20, c20N, c24]; rfl) ?_
              refine ee_ret ?_
              obtain rfl := Option.some.inj q23
              simp [FinQ, -chunk, -Cell.isSl, -callOp, callOp_eq, c14, c15, c15N, c16, c16N, c18, c20, c20N, c24]
        · skip
          rw [if_pos] at hr
          rotate_left
          · simp [c14, c15, c15N, c16, c16N, c18]
          refine ee_seq_condT (by simp [bV, c14, c15, c15N, c16, c16N, c18]) ?_
          refine ee_assoc ?_
          refine ee_seq_reg rfl (by simp [-chunk, -Cell.isSl, -callOp, callOp_eq, c14, c15, c15N, c16, c16N, c18]; rfl) ?_
          refine ee_seq_ret ?_
          obtain rfl := Option.some.inj hr
          simp [FinQ, -chunk, -Cell.isSl, -callOp, callOp_eq, c14, c15, c15N, c16, c16N, c18]
  · skip
    rw [if_pos] at hr
    rotate_left
    · simp [c14]
    refine ee_seq_condT (by simp [bV, c14]) ?_
    refine ee_assoc ?_
    refine ee_seq_reg rfl (by simp [-chunk, -Cell.isSl, -callOp, callOp_eq, c14]; rfl) ?_
    refine ee_seq_ret ?_
    obtain rfl := Option.some.inj hr
    simp [FinQ, -chunk, -Cell.isSl, -callOp, callOp_eq, c14]
def kp52 : Keep := fun i => if i = 3 then ⟨[4, 7, 8, 9], [], []⟩ else ⟨[], [], []⟩
theorem w52 {T : Tab} (a0 : (List Tapi_Coin)) (x : Int × Bool) (hr : Lspend_sum a0 = some x) : ∃ kp fl n, execFn tt T G kp fl n Try.f52 [.one (.slice .no (List.map eapi_Coin a0))] = some (.tup [.one (.v (.int .i64 x.1)), .one (.v (.bool x.2))], []) := by
  refine fnE (kp := kp52) (w := false) body52 ?_
  unfold c52
  rw [Try.ntmps52]
  unfold Lspend_sum at hr
  refine ee_seq_reg rfl (by simp [-chunk, -Cell.isSl, -callOp, callOp_eq, ]; rfl) ?_
  refine ee_seq_reg rfl (by simp [-chunk, -Cell.isSl, -callOp, callOp_eq, ]; rfl) ?_
  refine ee_assoc ?_
  refine ee_seq_reg rfl (by simp [-chunk, -Cell.isSl, -callOp, callOp_eq, ]; rfl) ?_
  refine ee_seq_block ?_
  refine ee_loop (kq := ⟨[4, 7, 8, 9], [], []⟩) (H := fun (s : Int × Int) => match s with | (p5, p6) => (⟨(und 4 ++ ([.one (.v (.int .i64 p5))] ++ (und 2 ++ ([.one (.slice .no (List.map eapi_Coin a0)), .one (.v (.int .i64 (a0.length : Int))), .one (.v (.int .i64 p6))] ++ (und 22)))) : List PV), ([] : Boxes)⟩ : ASt)) (by kernel_rfl) hr (by simp [und, List.replicate, ]) ?_
  rintro ⟨p5, p6⟩ x9r hr9
  simp only [Lspend_sum_s1] at hr9
  unfold b52_1
  simp only [und, List.replicate, List.cons_append, List.nil_append]
  refine ee_seq_reg rfl (by simp [-chunk, -Cell.isSl, -callOp, callOp_eq, ]; rfl) ?_
  by_cases c10 : p6 < (a0.length : Int)
  · skip
    have c10N := c10
    try simp at c10N
    rw [if_pos] at hr9
    rotate_left
    · simp [c10, c10N]
    refine ee_seq_condT (by simp [bV, c10, c10N]) ?_
    refine ee_seq_skip ?_
    refine ee_seq_block ?_
    obtain ⟨x11, hx11, hr9⟩ := Option.bind_eq_some_iff.1 hr9
    obtain ⟨hx11a, hx11b⟩ := idx_some hx11
    have hx11c := getE_of hx11b
    refine ee_seq_reg rfl (by simp [-chunk, -Cell.isSl, -callOp, callOp_eq, hx11a, hx11b, hx11c, c10, c10N]; rfl) ?_
    refine ee_assoc ?_
    by_cases c12 : x11.2.1.1 < 0
    · skip
      refine ee_seq_reg rfl (by simp [-chunk, -Cell.isSl, -callOp, callOp_eq, c10, c10N, c12]; rfl) ?_
      rw [if_pos] at hr9
      rotate_left
      · simp [c10, c10N, c12]
      refine ee_seq_condT (by simp [bV, c10, c10N, c12]) ?_
      refine ee_assoc ?_
      refine ee_seq_reg rfl (by simp [-chunk, -Cell.isSl, -callOp, callOp_eq, c10, c10N, c12]; rfl) ?_
      refine ee_seq_ret ?_
      obtain rfl := Option.some.inj hr9
      simp only [outOf, thenQ, QL, if_true, ite_true, reduceCtorEq, if_false]
      rintro rfl
      simp [FinQ, -chunk, -Cell.isSl, -callOp, callOp_eq, c10, c10N, c12]
    · skip
      refine ee_seq_reg rfl (by simp [-chunk, -Cell.isSl, -callOp, callOp_eq, c10, c10N, c12]; rfl) ?_
      by_cases c13 : IntKind.i64.wrap (2100000000000000 - p5) < x11.2.1.1
      · skip
        rw [if_pos] at hr9
        rotate_left
        · simp [c10, c10N, c12, c13]
        refine ee_seq_condT (by simp [bV, c10, c10N, c12, c13]) ?_
        refine ee_assoc ?_
        refine ee_seq_reg rfl (by simp [-chunk, -Cell.isSl, -callOp, callOp_eq, c10, c10N, c12, c13]; rfl) ?_
        refine ee_seq_ret ?_
        obtain rfl := Option.some.inj hr9
        simp only [outOf, thenQ, QL, if_true, ite_true, reduceCtorEq, if_false]
        rintro rfl
        simp [FinQ, -chunk, -Cell.isSl, -callOp, callOp_eq, c10, c10N, c12, c13]
      · skip
        rw [if_neg] at hr9
        rotate_left
        · simp [c10, c10N, c12, c13]
        refine ee_seq_condF (by simp [bV, c10, c10N, c12, c13]) ?_
        refine ee_seq_skip ?_
        refine ee_reg rfl (by simp [-chunk, -Cell.isSl, -callOp, callOp_eq, c10, c10N, c12, c13]; rfl) ?_
        simp only [outOf, thenQ, QL, if_true, ite_true, reduceCtorEq, if_false]
        refine ee_reg rfl (by simp [-chunk, -Cell.isSl, -callOp, callOp_eq, c10, c10N, c12, c13]; rfl) ?_
        obtain rfl := Option.some.inj hr9
        simp only [outOf, thenQ, QL, if_true, ite_true, reduceCtorEq, if_false]
        simp [und, List.replicate, Nat.add_assoc, c10, c10N, c12, c13]
  · skip
    have c10N := c10
    try simp at c10N
    rw [if_neg] at hr9
    rotate_left
    · simp [c10, c10N]
    refine ee_seq_condF (by simp [bV, c10, c10N]) ?_
    refine ee_seq_exit ?_
    obtain ⟨r14, q14, rfl⟩ := Option.map_eq_some_iff.1 hr9
    simp only [outOf, thenQ, QL, if_true, ite_true, reduceCtorEq, if_false]
    rintro rfl
    try simp only [outOf, thenQ, QL, if_true, ite_true, reduceCtorEq, if_false]
    unfold Lspend_sum_k1 at q14
    refine ee_seq_reg rfl (by simp [-chunk, -Cell.isSl, -callOp, callOp_eq, c10, c10N]; rfl) ?_
    refine ee_ret ?_
    obtain rfl := Option.some.inj q14
    simp [FinQ, -chunk, -Cell.isSl, -callOp, callOp_eq, c10, c10N]
def kp37 : Keep := fun i => if i = 7 then ⟨[1, 2, 24, 25, 26], [2], []⟩ else if i = 16 then ⟨[9, 49, 50, 51], [], []⟩ else ⟨[], [], []⟩
theorem w37 {T : Tab} (hT35 : T 35 = some G_Ltx_Check) (hT52 : T 52 = some G_Lspend_sum) (a0 : Tapi_Tx) (a1 : (List Tapi_Coin)) (x : Int × Int) (hr : Lspend_Fee a0 a1 = some x) : ∃ kp fl n, execFn tt T G kp fl n Try.f37 [.agg ([.v (.int .u32 a0.1), .slice .no (List.map eapi_Input a0.2.1), .slice .no (List.map eapi_Output a0.2.2.1), .v (.int .u32 a0.2.2.2)]), .one (.slice .no (List.map eapi_Coin a1))] = some (.tup [.one (.v (.int .i64 x.1)), .one (.v (.int .i64 x.2))], []) := by
  refine fnE (kp := kp37) (w := false) body37 ?_
  unfold c37
  rw [Try.ntmps37]
  unfold Lspend_Fee at hr
  refine ee_seq_reg rfl (by simp [-chunk, -Cell.isSl, -callOp, callOp_eq, ]; rfl) ?_
  refine ee_assoc ?_
  obtain ⟨y21, hy21, hr⟩ := Option.bind_eq_some_iff.1 hr
  have ehy21 := G_Ltx_Check_eq hy21
  try simp only [intsR_nil, intsR_cons, intsR_app, intsR_tk, intsR_dr, intsR_st, intsR_rep, List.map_nil, List.map_cons, List.map_append, List.map_take, List.map_drop, List.map_set, List.map_replicate, List.nil_append, List.cons_append, List.append_assoc, eapi_Input, eapi_Output, eapi_Spendable, eS_I_u8, eapi_Coin] at ehy21
  refine ee_seq_reg rfl (by simp [-chunk, -Cell.isSl, -callOp, callOp_eq, hT35, ehy21]; rfl) ?_
  refine ee_assoc ?_
  refine ee_seq_reg rfl (by simp [-chunk, -Cell.isSl, -callOp, callOp_eq, ]; rfl) ?_
  by_cases c22 : y21 = 0
  · skip
    rw [if_neg] at hr
    rotate_left
    · simp [eq_true c22]
    refine ee_seq_condF (by simp [bV, eq_true c22]) ?_
    refine ee_seq_skip ?_
    refine ee_assoc ?_
    refine ee_seq_reg rfl (by simp [-chunk, -Cell.isSl, -callOp, callOp_eq, eq_true c22]; rfl) ?_
    by_cases c23 : (a1.length : Int) = (a0.2.1.length : Int)
    · skip
      have c23N := c23
      try simp at c23N
      rw [if_neg] at hr
      rotate_left
      · simp [eq_true c22, eq_true c23, eq_true c23N]
      refine ee_seq_condF (by simp [bV, eq_true c22, eq_true c23, eq_true c23N]) ?_
      refine ee_seq_skip ?_
      refine ee_assoc ?_
      refine ee_seq_reg rfl (by simp [-chunk, -Cell.isSl, -callOp, callOp_eq, eq_true c22, eq_true c23, eq_true c23N]; rfl) ?_
      refine ee_seq_block ?_
      refine ee_loop (kq := ⟨[1, 2, 24, 25, 26], [2], []⟩) (H := fun (s : Int) => match s with | p7 => (⟨(und 1 ++ ([.one (.slice .no (List.map eapi_Coin a1)), .ptr 2 0 0 0 4] ++ (und 21 ++ ([.one (.slice .no (List.map eapi_Coin a1)), .one (.v (.int .i64 (a1.length : Int))), .one (.v (.int .i64 p7))] ++ (und 36)))) : List PV), ([(2, ⟨0, 4, [[.v (.int .u32 a0.1), .slice .no (List.map eapi_Input a0.2.1), .slice .no (List.map eapi_Output a0.2.2.1), .v (.int .u32 a0.2.2.2)]], false, false⟩)] : Boxes)⟩ : ASt)) (by kernel_rfl) hr (by simp [und, List.replicate, eq_true c22, eq_true c23, eq_true c23N]) ?_
      rintro p7 x24r hr24
      simp only [Lspend_Fee_s1] at hr24
      unfold b37_1
      simp only [und, List.replicate, List.cons_append, List.nil_append]
      refine ee_seq_reg rfl (by simp [-chunk, -Cell.isSl, -callOp, callOp_eq, eq_true c22, eq_true c23, eq_true c23N]; rfl) ?_
      by_cases c25 : p7 < (a1.length : Int)
      · skip
        have c25N := c25
        try simp at c25N
        rw [if_pos] at hr24
        rotate_left
        · simp [eq_true c22, eq_true c23, eq_true c23N, c25, c25N]
        refine ee_seq_condT (by simp [bV, eq_true c22, eq_true c23, eq_true c23N, c25, c25N]) ?_
        refine ee_seq_skip ?_
        refine ee_seq_block ?_
        obtain ⟨x26, hx26, hr24⟩ := Option.bind_eq_some_iff.1 hr24
        obtain ⟨hx26a, hx26b⟩ := idx_some hx26
        have hx26c := getE_of hx26b
        refine ee_seq_reg rfl (by simp [-chunk, -Cell.isSl, -callOp, callOp_eq, hx26a, hx26b, hx26c, eq_true c22, eq_true c23, eq_true c23N, c25, c25N]; rfl) ?_
        obtain ⟨x27, hx27, hr24⟩ := Option.bind_eq_some_iff.1 hr24
        obtain ⟨hx27a, hx27b⟩ := idx_some hx27
        have hx27c := getE_of hx27b
        refine ee_seq_draw rfl (by simp [-chunk, -Cell.isSl, -callOp, callOp_eq, hx27a, hx27b, hx27c, eq_true c22, eq_true c23, eq_true c23N, c25, c25N]; first | exact ⟨rfl, rfl⟩ | rfl) (by kernel_rfl) ?_
        by_cases c28 : x26.1.1 = x27.1.1
        · skip
          by_cases c29 : x26.1.2 = x27.1.2
          · skip
            rw [if_neg] at hr24
            rotate_left
            · simp [eq_true c22, eq_true c23, eq_true c23N, c25, c25N, eq_true c28, eq_true c29]
            refine ee_condF (by simp [bV, eq_true c22, eq_true c23, eq_true c23N, c25, c25N, eq_true c28, eq_true c29]) ?_
            refine ee_skip ?_
            simp only [outOf, thenQ, QL, if_true, ite_true, reduceCtorEq, if_false]
            refine ee_reg rfl (by simp [-chunk, -Cell.isSl, -callOp, callOp_eq, eq_true c22, eq_true c23, eq_true c23N, c25, c25N, eq_true c28, eq_true c29]; rfl) ?_
            obtain rfl := Option.some.inj hr24
            simp only [outOf, thenQ, QL, if_true, ite_true, reduceCtorEq, if_false]
            simp [und, List.replicate, Nat.add_assoc, eq_true c22, eq_true c23, eq_true c23N, c25, c25N, eq_true c28, eq_true c29]
          · skip
            rw [if_pos] at hr24
            rotate_left
            · simp [eq_true c22, eq_true c23, eq_true c23N, c25, c25N, eq_true c28, c29]
            refine ee_condT (by simp [bV, eq_true c22, eq_true c23, eq_true c23N, c25, c25N, eq_true c28, c29]) ?_
            refine ee_seq_reg rfl (by simp [-chunk, -Cell.isSl, -callOp, callOp_eq, eq_true c22, eq_true c23, eq_true c23N, c25, c25N, eq_true c28, c29]; rfl) ?_
            refine ee_ret ?_
            obtain rfl := Option.some.inj hr24
            simp only [outOf, thenQ, QL, if_true, ite_true, reduceCtorEq, if_false]
            rintro rfl
            simp [FinQ, -chunk, -Cell.isSl, -callOp, callOp_eq, eq_true c22, eq_true c23, eq_true c23N, c25, c25N, eq_true c28, c29]
        · skip
          rw [if_pos] at hr24
          rotate_left
          · simp [eq_true c22, eq_true c23, eq_true c23N, c25, c25N, c28]
          refine ee_condT (by simp [bV, eq_true c22, eq_true c23, eq_true c23N, c25, c25N, c28]) ?_
          refine ee_seq_reg rfl (by simp [-chunk, -Cell.isSl, -callOp, callOp_eq, eq_true c22, eq_true c23, eq_true c23N, c25, c25N, c28]; rfl) ?_
          refine ee_ret ?_
          obtain rfl := Option.some.inj hr24
          simp only [outOf, thenQ, QL, if_true, ite_true, reduceCtorEq, if_false]
          rintro rfl
          simp [FinQ, -chunk, -Cell.isSl, -callOp, callOp_eq, eq_true c22, eq_true c23, eq_true c23N, c25, c25N, c28]
      · skip
        have c25N := c25
        try simp at c25N
        rw [if_neg] at hr24
        rotate_left
        · simp [eq_true c22, eq_true c23, eq_true c23N, c25, c25N]
        refine ee_seq_condF (by simp [bV, eq_true c22, eq_true c23, eq_true c23N, c25, c25N]) ?_
        refine ee_seq_exit ?_
        obtain ⟨r30, q30, rfl⟩ := Option.map_eq_some_iff.1 hr24
        simp only [outOf, thenQ, QL, if_true, ite_true, reduceCtorEq, if_false]
        rintro rfl
        try simp only [outOf, thenQ, QL, if_true, ite_true, reduceCtorEq, if_false]
        unfold Lspend_Fee_k1 at q30
        obtain ⟨y31, hy31, q30⟩ := Option.bind_eq_some_iff.1 q30
        have ehy31 := G_Lspend_sum_eq hy31
        try simp only [intsR_nil, intsR_cons, intsR_app, intsR_tk, intsR_dr, intsR_st, intsR_rep, List.map_nil, List.map_cons, List.map_append, List.map_take, List.map_drop, List.map_set, List.map_replicate, List.nil_append, List.cons_append, List.append_assoc, eapi_Input, eapi_Output, eapi_Spendable, eS_I_u8, eapi_Coin] at ehy31
        refine ee_seq_reg rfl (by simp [-chunk, -Cell.isSl, -callOp, callOp_eq, hT52, ehy31, eq_true c22, eq_true c23, eq_true c23N, c25, c25N]; rfl) ?_
        refine ee_assoc ?_
        refine ee_seq_reg rfl (by simp [-chunk, -Cell.isSl, -callOp, callOp_eq, eq_true c22, eq_true c23, eq_true c23N, c25, c25N]; rfl) ?_
        by_cases c32 : y31.2 = true
        · skip
          rw [if_neg] at q30
          rotate_left
          · simp [eq_true c22, eq_true c23, eq_true c23N, c25, c25N, c32]
          refine ee_seq_condF (by simp [bV, eq_true c22, eq_true c23, eq_true c23N, c25, c25N, c32]) ?_
          refine ee_seq_skip ?_
          refine ee_assoc ?_
          refine ee_seq_reg rfl (by simp [-chunk, -Cell.isSl, -callOp, callOp_eq, eq_true c22, eq_true c23, eq_true c23N, c25, c25N, c32]; rfl) ?_
          refine ee_seq_block ?_
          refine ee_loop (kq := ⟨[9, 49, 50, 51], [], []⟩) (H := fun (s : Int × Int) => match s with | (p15, p16) => (⟨(und 9 ++ ([.one (.v (.int .i64 p15))] ++ (und 39 ++ ([.one (.slice .no (List.map eapi_Output a0.2.2.1)), .one (.v (.int .i64 (a0.2.2.1.length : Int))), .one (.v (.int .i64 p16))] ++ (und 11)))) : List PV), ([] : Boxes)⟩ : ASt)) (by kernel_rfl) q30 (by simp [und, List.replicate, eq_true c22, eq_true c23, eq_true c23N, c25, c25N, c32]) ?_
          rintro ⟨p15, p16⟩ x33r hr33
          simp only [Lspend_Fee_s2] at hr33
          unfold b37_2
          simp only [und, List.replicate, List.cons_append, List.nil_append]
          refine ee_seq_reg rfl (by simp [-chunk, -Cell.isSl, -callOp, callOp_eq, eq_true c22, eq_true c23, eq_true c23N, c25, c25N, c32]; rfl) ?_
          by_cases c34 : p16 < (a0.2.2.1.length : Int)
          · skip
            have c34N := c34
            try simp at c34N
            rw [if_pos] at hr33
            rotate_left
            · simp [eq_true c22, eq_true c23, eq_true c23N, c25, c25N, c32, c34, c34N]
            refine ee_seq_condT (by simp [bV, eq_true c22, eq_true c23, eq_true c23N, c25, c25N, c32, c34, c34N]) ?_
            refine ee_seq_skip ?_
            refine ee_seq_block ?_
            obtain ⟨x35, hx35, hr33⟩ := Option.bind_eq_some_iff.1 hr33
            obtain ⟨hx35a, hx35b⟩ := idx_some hx35
            have hx35c := getE_of hx35b
            refine ee_seq_reg rfl (by simp [-chunk, -Cell.isSl, -callOp, callOp_eq, hx35a, hx35b, hx35c, eq_true c22, eq_true c23, eq_true c23N, c25, c25N, c32, c34, c34N]; rfl) ?_
            refine ee_reg rfl (by simp [-chunk, -Cell.isSl, -callOp, callOp_eq, eq_true c22, eq_true c23, eq_true c23N, c25, c25N, c32, c34, c34N]; rfl) ?_
            simp only [outOf, thenQ, QL, if_true, ite_true, reduceCtorEq, if_false]
            refine ee_reg rfl (by simp [-chunk, -Cell.isSl, -callOp, callOp_eq, eq_true c22, eq_true c23, eq_true c23N, c25, c25N, c32, c34, c34N]; rfl) ?_
            obtain rfl := Option.some.inj hr33
            simp only [outOf, thenQ, QL, if_true, ite_true, reduceCtorEq, if_false]
            simp [und, List.replicate, Nat.add_assoc, eq_true c22, eq_true c23, eq_true c23N, c25, c25N, c32, c34, c34N]
          · skip
            have c34N := c34
            try simp at c34N
            rw [if_neg] at hr33
            rotate_left
            · simp [eq_true c22, eq_true c23, eq_true c23N, c25, c25N, c32, c34, c34N]
            refine ee_seq_condF (by simp [bV, eq_true c22, eq_true c23, eq_true c23N, c25, c25N, c32, c34, c34N]) ?_
            refine ee_seq_exit ?_
            obtain ⟨r36, q36, rfl⟩ := Option.map_eq_some_iff.1 hr33
            simp only [outOf, thenQ, QL, if_true, ite_true, reduceCtorEq, if_false]
            rintro rfl
            try simp only [outOf, thenQ, QL, if_true, ite_true, reduceCtorEq, if_false]
            unfold Lspend_Fee_k2 at q36
            refine ee_assoc ?_
            refine ee_seq_reg rfl (by simp [-chunk, -Cell.isSl, -callOp, callOp_eq, eq_true c22, eq_true c23, eq_true c23N, c25, c25N, c32, c34, c34N]; rfl) ?_
            by_cases c37 : p15 < 0
            · skip
              rw [if_pos] at q36
              rotate_left
              · simp [eq_true c22, eq_true c23, eq_true c23N, c25, c25N, c32, c34, c34N, c37]
              refine ee_seq_condT (by simp [bV, eq_true c22, eq_true c23, eq_true c23N, c25, c25N, c32, c34, c34N, c37]) ?_
              refine ee_assoc ?_
              refine ee_seq_reg rfl (by simp [-chunk, -Cell.isSl, -callOp, callOp_eq, eq_true c22, eq_true c23, eq_true c23N, c25, c25N, c32, c34, c34N, c37]; rfl) ?_
              refine ee_seq_ret ?_
              obtain rfl := Option.some.inj q36
              simp [FinQ, -chunk, -Cell.isSl, -callOp, callOp_eq, eq_true c22, eq_true c23, eq_true c23N, c25, c25N, c32, c34, c34N, c37]
            · skip
              rw [if_neg] at q36
              rotate_left
              · simp [eq_true c22, eq_true c23, eq_true c23N, c25, c25N, c32, c34, c34N, c37]
              refine ee_seq_condF (by simp [bV, eq_true c22, eq_true c23, eq_true c23N, c25, c25N, c32, c34, c34N, c37]) ?_
              refine ee_seq_skip ?_
              refine ee_seq_reg rfl (by simp [-chunk, -Cell.isSl, -callOp, callOp_eq, eq_true c22, eq_true c23, eq_true c23N, c25, c25N, c32, c34, c34N, c37]; rfl) ?_
              refine ee_ret ?_
              obtain rfl := Option.some.inj q36
              simp [FinQ, -chunk, -Cell.isSl, -callOp, callOp_eq, eq_true c22, eq_true c23, eq_true c23N, c25, c25N, c32, c34, c34N, c37]
        · skip
          rw [if_pos] at q30
          rotate_left
          · simp [eq_true c22, eq_true c23, eq_true c23N, c25, c25N, c32]
          refine ee_seq_condT (by simp [bV, eq_true c22, eq_true c23, eq_true c23N, c25, c25N, c32]) ?_
          refine ee_assoc ?_
          refine ee_seq_reg rfl (by simp [-chunk, -Cell.isSl, -callOp, callOp_eq, eq_true c22, eq_true c23, eq_true c23N, c25, c25N, c32]; rfl) ?_
          refine ee_seq_ret ?_
          obtain rfl := Option.some.inj q30
          simp [FinQ, -chunk, -Cell.isSl, -callOp, callOp_eq, eq_true c22, eq_true c23, eq_true c23N, c25, c25N, c32]
    · skip
      have c23N := c23
      try simp at c23N
      rw [if_pos] at hr
      rotate_left
      · simp [eq_true c22, c23, c23N]
      refine ee_seq_condT (by simp [bV, eq_true c22, c23, c23N]) ?_
      refine ee_assoc ?_
      refine ee_seq_reg rfl (by simp [-chunk, -Cell.isSl, -callOp, callOp_eq, eq_true c22, c23, c23N]; rfl) ?_
      refine ee_seq_ret ?_
      obtain rfl := Option.some.inj hr
      simp [FinQ, -chunk, -Cell.isSl, -callOp, callOp_eq, eq_true c22, c23, c23N]
  · skip
    rw [if_pos] at hr
    rotate_left
    · simp [c22]
    refine ee_seq_condT (by simp [bV, c22]) ?_
    refine ee_assoc ?_
    refine ee_seq_reg rfl (by simp [-chunk, -Cell.isSl, -callOp, callOp_eq, c22]; rfl) ?_
    refine ee_seq_ret ?_
    obtain rfl := Option.some.inj hr
    simp [FinQ, -chunk, -Cell.isSl, -callOp, callOp_eq, c22]
def kp20 : Keep := fun i => if i = 4 then ⟨[1, 18, 19, 20], [1], []⟩ else ⟨[], [], []⟩
theorem w20 {T : Tab} (hT35 : T 35 = some G_Ltx_Check) (hT36 : T 36 = some G_Ltx_Coinbase) (hT37 : T 37 = some G_Lspend_Fee) (a0 : Tapi_Plan) (x : Bool) (hr : Lbuild_Valid a0 = some x) : ∃ kp fl n, execFn tt T G kp fl n Try.f20 [.agg ([.v (.int .u32 a0.1.1), .slice .no (List.map eapi_Input a0.1.2.1), .slice .no (List.map eapi_Output a0.1.2.2.1), .v (.int .u32 a0.1.2.2.2), .slice .no (List.map eapi_Coin a0.2.1), .v (.int .i64 a0.2.2.1), .v (.int .i64 a0.2.2.2)])] = some (.one (.v (.bool x)), []) := by
  refine fnE (kp := kp20) (w := false) body20 ?_
  unfold c20
  rw [Try.ntmps20]
  unfold Lbuild_Valid at hr
  refine ee_seq_reg rfl (by simp [-chunk, -Cell.isSl, -callOp, callOp_eq, ]; rfl) ?_
  refine ee_assoc ?_
  obtain ⟨y11, hy11, hr⟩ := Option.bind_eq_some_iff.1 hr
  have ehy11 := G_Ltx_Check_eq hy11
  try simp only [intsR_nil, intsR_cons, intsR_app, intsR_tk, intsR_dr, intsR_st, intsR_rep, List.map_nil, List.map_cons, List.map_append, List.map_take, List.map_drop, List.map_set, List.map_replicate, List.nil_append, List.cons_append, List.append_assoc, eapi_Input, eapi_Output, eapi_Spendable, eS_I_u8, eapi_Coin] at ehy11
  by_cases c12 : y11 = 0
  · skip
    rw [if_neg] at hr
    rotate_left
    · simp [eq_true c12]
    obtain ⟨z13, hz13, hr⟩ := Option.bind_eq_some_iff.1 hr
    obtain ⟨y14, hy14, hz13⟩ := Option.bind_eq_some_iff.1 hz13
    have ehy14 := G_Ltx_Coinbase_eq hy14
    try simp only [intsR_nil, intsR_cons, intsR_app, intsR_tk, intsR_dr, intsR_st, intsR_rep, List.map_nil, List.map_cons, List.map_append, List.map_take, List.map_drop, List.map_set, List.map_replicate, List.nil_append, List.cons_append, List.append_assoc, eapi_Input, eapi_Output, eapi_Spendable, eS_I_u8, eapi_Coin] at ehy14
    obtain rfl := Option.some.inj hz13
    refine ee_seq_reg rfl (by simp [-chunk, -Cell.isSl, -callOp, callOp_eq, hT35, ehy11, hT36, ehy14, eq_true c12]; rfl) ?_
    by_cases c15 : y14 = true
    · skip
      rw [if_pos] at hr
      rotate_left
      · simp [eq_true c12, c15]
      refine ee_seq_condT (by simp [bV, eq_true c12, c15]) ?_
      refine ee_assoc ?_
      refine ee_seq_reg rfl (by simp [-chunk, -Cell.isSl, -callOp, callOp_eq, eq_true c12, c15]; rfl) ?_
      refine ee_seq_ret ?_
      obtain rfl := Option.some.inj hr
      simp [FinQ, -chunk, -Cell.isSl, -callOp, callOp_eq, eq_true c12, c15]
    · skip
      rw [if_neg] at hr
      rotate_left
      · simp [eq_true c12, c15]
      refine ee_seq_condF (by simp [bV, eq_true c12, c15]) ?_
      refine ee_seq_skip ?_
      refine ee_assoc ?_
      refine ee_seq_reg rfl (by simp [-chunk, -Cell.isSl, -callOp, callOp_eq, eq_true c12, c15]; rfl) ?_
      refine ee_seq_block ?_
      refine ee_loop (kq := ⟨[1, 18, 19, 20], [1], []⟩) (H := fun (s : Int) => match s with | p7 => (⟨(und 1 ++ ([.ptr 1 0 0 0 7] ++ (und 16 ++ ([.one (.slice .no (List.map eapi_Input a0.1.2.1)), .one (.v (.int .i64 (a0.1.2.1.length : Int))), .one (.v (.int .i64 p7))] ++ (und 36)))) : List PV), ([(1, ⟨0, 7, [[.v (.int .u32 a0.1.1), .slice .no (List.map eapi_Input a0.1.2.1), .slice .no (List.map eapi_Output a0.1.2.2.1), .v (.int .u32 a0.1.2.2.2), .slice .no (List.map eapi_Coin a0.2.1), .v (.int .i64 a0.2.2.1), .v (.int .i64 a0.2.2.2)]], false, false⟩)] : Boxes)⟩ : ASt)) (by kernel_rfl) hr (by simp [und, List.replicate, eq_true c12, c15]) ?_
      rintro p7 x16r hr16
      simp only [Lbuild_Valid_s1] at hr16
      unfold b20_1
      simp only [und, List.replicate, List.cons_append, List.nil_append]
      refine ee_seq_reg rfl (by simp [-chunk, -Cell.isSl, -callOp, callOp_eq, eq_true c12, c15]; rfl) ?_
      by_cases c17 : p7 < (a0.1.2.1.length : Int)
      · skip
        have c17N := c17
        try simp at c17N
        rw [if_pos] at hr16
        rotate_left
        · simp [eq_true c12, c15, c17, c17N]
        refine ee_seq_condT (by simp [bV, eq_true c12, c15, c17, c17N]) ?_
        refine ee_seq_skip ?_
        refine ee_seq_block ?_
        obtain ⟨x18, hx18, hr16⟩ := Option.bind_eq_some_iff.1 hr16
        obtain ⟨hx18a, hx18b⟩ := idx_some hx18
        have hx18c := getE_of hx18b
        refine ee_seq_reg rfl (by simp [-chunk, -Cell.isSl, -callOp, callOp_eq, hx18a, hx18b, hx18c, eq_true c12, c15, c17, c17N]; rfl) ?_
        refine ee_seq_reg rfl (by simp [-chunk, -Cell.isSl, -callOp, callOp_eq, eq_true c12, c15, c17, c17N]; rfl) ?_
        by_cases c19 : 0 < (x18.2.2.length : Int)
        · skip
          have c19N := c19
          try simp at c19N
          rw [if_pos] at hr16
          rotate_left
          · simp [eq_true c12, c15, c17, c17N, c19, c19N]
          refine ee_condT (by simp [bV, eq_true c12, c15, c17, c17N, c19, c19N]) ?_
          refine ee_seq_reg rfl (by simp [-chunk, -Cell.isSl, -callOp, callOp_eq, eq_true c12, c15, c17, c17N, c19, c19N]; rfl) ?_
          refine ee_ret ?_
          obtain rfl := Option.some.inj hr16
          simp only [outOf, thenQ, QL, if_true, ite_true, reduceCtorEq, if_false]
          rintro rfl
          simp [FinQ, -chunk, -Cell.isSl, -callOp, callOp_eq, eq_true c12, c15, c17, c17N, c19, c19N]
        · skip
          have c19N := c19
          try simp at c19N
          rw [if_neg] at hr16
          rotate_left
          · simp [eq_true c12, c15, c17, c17N, c19, c19N]
          refine ee_condF (by simp [bV, eq_true c12, c15, c17, c17N, c19, c19N]) ?_
          refine ee_skip ?_
          simp only [outOf, thenQ, QL, if_true, ite_true, reduceCtorEq, if_false]
          refine ee_reg rfl (by simp [-chunk, -Cell.isSl, -callOp, callOp_eq, eq_true c12, c15, c17, c17N, c19, c19N]; rfl) ?_
          obtain rfl := Option.some.inj hr16
          simp only [outOf, thenQ, QL, if_true, ite_true, reduceCtorEq, if_false]
          simp [und, List.replicate, Nat.add_assoc, eq_true c12, c15, c17, c17N, c19, c19N]
      · skip
        have c17N := c17
        try simp at c17N
        rw [if_neg] at hr16
        rotate_left
        · simp [eq_true c12, c15, c17, c17N]
        refine ee_seq_condF (by simp [bV, eq_true c12, c15, c17, c17N]) ?_
        refine ee_seq_exit ?_
        obtain ⟨r20, q20, rfl⟩ := Option.map_eq_some_iff.1 hr16
        simp only [outOf, thenQ, QL, if_true, ite_true, reduceCtorEq, if_false]
        rintro rfl
        try simp only [outOf, thenQ, QL, if_true, ite_true, reduceCtorEq, if_false]
        unfold Lbuild_Valid_k1 at q20
        refine ee_assoc ?_
        by_cases c21 : a0.2.2.2 < (-1)
        · skip
          refine ee_seq_reg rfl (by simp [-chunk, -Cell.isSl, -callOp, callOp_eq, eq_true c12, c15, c17, c17N, c21]; rfl) ?_
          rw [if_pos] at q20
          rotate_left
          · simp [eq_true c12, c15, c17, c17N, c21]
          refine ee_seq_condT (by simp [bV, eq_true c12, c15, c17, c17N, c21]) ?_
          refine ee_assoc ?_
          refine ee_seq_reg rfl (by simp [-chunk, -Cell.isSl, -callOp, callOp_eq, eq_true c12, c15, c17, c17N, c21]; rfl) ?_
          refine ee_seq_ret ?_
          obtain rfl := Option.some.inj q20
          simp [FinQ, -chunk, -Cell.isSl, -callOp, callOp_eq, eq_true c12, c15, c17, c17N, c21]
        · skip
          refine ee_seq_reg rfl (by simp [-chunk, -Cell.isSl, -callOp, callOp_eq, eq_true c12, c15, c17, c17N, c21]; rfl) ?_
          by_cases c22 : (a0.1.2.2.1.length : Int) ≤ a0.2.2.2
          · skip
            have c22N := c22
            try simp at c22N
            rw [if_pos] at q20
            rotate_left
            · simp [eq_true c12, c15, c17, c17N, c21, c22, c22N]
            refine ee_seq_condT (by simp [bV, eq_true c12, c15, c17, c17N, c21, c22, c22N]) ?_
            refine ee_assoc ?_
            refine ee_seq_reg rfl (by simp [-chunk, -Cell.isSl, -callOp, callOp_eq, eq_true c12, c15, c17, c17N, c21, c22, c22N]; rfl) ?_
            refine ee_seq_ret ?_
            obtain rfl := Option.some.inj q20
            simp [FinQ, -chunk, -Cell.isSl, -callOp, callOp_eq, eq_true c12, c15, c17, c17N, c21, c22, c22N]
          · skip
            have c22N := c22
            try simp at c22N
            rw [if_neg] at q20
            rotate_left
            · simp [eq_true c12, c15, c17, c17N, c21, c22, c22N]
            refine ee_seq_condF (by simp [bV, eq_true c12, c15, c17, c17N, c21, c22, c22N]) ?_
            refine ee_seq_skip ?_
            obtain ⟨y23, hy23, q20⟩ := Option.bind_eq_some_iff.1 q20
            have ehy23 := G_Lspend_Fee_eq hy23
            try simp only [intsR_nil, intsR_cons, intsR_app, intsR_tk, intsR_dr, intsR_st, intsR_rep, List.map_nil, List.map_cons, List.map_append, List.map_take, List.map_drop, List.map_set, List.map_replicate, List.nil_append, List.cons_append, List.append_assoc, eapi_Input, eapi_Output, eapi_Spendable, eS_I_u8, eapi_Coin] at ehy23
            refine ee_seq_reg rfl (by simp [-chunk, -Cell.isSl, -callOp, callOp_eq, hT37, ehy23, eq_true c12, c15, c17, c17N, c21, c22, c22N]; rfl) ?_
            by_cases c24 : y23.2 = 0
            · skip
              refine ee_seq_reg rfl (by simp [-chunk, -Cell.isSl, -callOp, callOp_eq, eq_true c12, c15, c17, c17N, c21, c22, c22N, eq_true c24]; rfl) ?_
              refine ee_ret ?_
              obtain rfl := Option.some.inj q20
              simp [FinQ, -chunk, -Cell.isSl, -callOp, callOp_eq, eq_true c12, c15, c17, c17N, c21, c22, c22N, eq_true c24]
            · skip
              refine ee_seq_reg rfl (by simp [-chunk, -Cell.isSl, -callOp, callOp_eq, eq_true c12, c15, c17, c17N, c21, c22, c22N, c24]; rfl) ?_
              refine ee_ret ?_
              obtain rfl := Option.some.inj q20
              simp [FinQ, -chunk, -Cell.isSl, -callOp, callOp_eq, eq_true c12, c15, c17, c17N, c21, c22, c22N, c24]
  · skip
    rw [if_pos] at hr
    rotate_left
    · simp [c12]
    obtain ⟨z25, hz25, hr⟩ := Option.bind_eq_some_iff.1 hr
    obtain rfl := Option.some.inj hz25
    refine ee_seq_reg rfl (by simp [-chunk, -Cell.isSl, -callOp, callOp_eq, hT35, ehy11, c12]; rfl) ?_
    rw [if_pos] at hr
    rotate_left
    · simp [c12]
    refine ee_seq_condT (by simp [bV, c12]) ?_
    refine ee_assoc ?_
    refine ee_seq_reg rfl (by simp [-chunk, -Cell.isSl, -callOp, callOp_eq, c12]; rfl) ?_
    refine ee_seq_ret ?_
    obtain rfl := Option.some.inj hr
    simp [FinQ, -chunk, -Cell.isSl, -callOp, callOp_eq, c12]
def kp53 : Keep := fun i => ⟨[], [], []⟩
theorem w53 {T : Tab} (a0 : Tapi_OutPoint) (x : Bool) (hr : Lref09_Null a0 = some x) : ∃ kp fl n, execFn tt T G kp fl n Try.f53 [.agg ((arC .u8 a0.1) ++ ((.v (.int .u32 a0.2)) :: []))] = some (.one (.v (.bool x)), []) := by
  refine fnE (kp := kp53) (w := false) body53 ?_
  unfold c53
  rw [Try.ntmps53]
  unfold Lref09_Null at hr
  refine ee_seq_reg rfl (by simp [-chunk, -Cell.isSl, -callOp, callOp_eq, ]; rfl) ?_
  refine ee_seq_reg rfl (by simp [-chunk, -Cell.isSl, -callOp, callOp_eq, ]; rfl) ?_
  refine ee_ret ?_
  obtain rfl := Option.some.inj hr
  simp [FinQ, -chunk, -Cell.isSl, -callOp, callOp_eq, ]
def kp39 : Keep := fun i => ⟨[], [], []⟩
theorem w39 {T : Tab} (hT53 : T 53 = some G_Lref09_Null) (a0 : Tapi_Tx) (x : Bool) (hr : Lref09_Coinbase a0 = some x) : ∃ kp fl n, execFn tt T G kp fl n Try.f39 [.agg ([.v (.int .u32 a0.1), .slice .no (List.map eapi_Input a0.2.1), .slice .no (List.map eapi_Output a0.2.2.1), .v (.int .u32 a0.2.2.2)])] = some (.one (.v (.bool x)), []) := by
  refine fnE (kp := kp39) (w := false) body39 ?_
  unfold c39
  rw [Try.ntmps39]
  unfold Lref09_Coinbase at hr
  refine ee_seq_reg rfl (by simp [-chunk, -Cell.isSl, -callOp, callOp_eq, ]; rfl) ?_
  by_cases c4 : (a0.2.1.length : Int) = 1
  · skip
    have c4N := c4
    try simp at c4N
    rw [if_pos] at hr
    rotate_left
    · simp [eq_true c4, eq_true c4N]
    obtain ⟨z5, hz5, hr⟩ := Option.bind_eq_some_iff.1 hr
    obtain ⟨x6, hx6, hz5⟩ := Option.bind_eq_some_iff.1 hz5
    have hx6c := getE_of hx6
    obtain ⟨y7, hy7, hz5⟩ := Option.bind_eq_some_iff.1 hz5
    have ehy7 := G_Lref09_Null_eq hy7
    try simp only [intsR_nil, intsR_cons, intsR_app, intsR_tk, intsR_dr, intsR_st, intsR_rep, List.map_nil, List.map_cons, List.map_append, List.map_take, List.map_drop, List.map_set, List.map_replicate, List.nil_append, List.cons_append, List.append_assoc, eapi_Input, eapi_Output, eapi_Spendable, eS_I_u8, eapi_Coin] at ehy7
    obtain rfl := Option.some.inj hz5
    refine ee_seq_reg rfl (by simp [-chunk, -Cell.isSl, -callOp, callOp_eq, hx6, hx6c, hT53, ehy7, eq_true c4, eq_true c4N]; rfl) ?_
    refine ee_ret ?_
    obtain rfl := Option.some.inj hr
    simp [FinQ, -chunk, -Cell.isSl, -callOp, callOp_eq, hx6, hx6c, hT53, ehy7, eq_true c4, eq_true c4N]
  · skip
    have c4N := c4
    try simp at c4N
    rw [if_neg] at hr
    rotate_left
    · simp [c4, c4N]
    obtain ⟨z8, hz8, hr⟩ := Option.bind_eq_some_iff.1 hr
    obtain rfl := Option.some.inj hz8
    refine ee_seq_reg rfl (by simp [-chunk, -Cell.isSl, -callOp, callOp_eq, c4, c4N]; rfl) ?_
    refine ee_ret ?_
    obtain rfl := Option.some.inj hr
    simp [FinQ, -chunk, -Cell.isSl, -callOp, callOp_eq, c4, c4N]
end Go.Proofs.Ytanhccemhpmnhaa
