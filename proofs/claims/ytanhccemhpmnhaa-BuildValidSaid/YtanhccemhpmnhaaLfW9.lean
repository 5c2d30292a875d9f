import Derived.Test.YtanhccemhpmnhaaLfK
import Derived.Test.YtanhccemhpmnhaaCode
namespace Go.Proofs.Ytanhccemhpmnhaa
open Go.RowKit
open Go.Av
open Go.Lc
set_option maxRecDepth 100000
set_option linter.unusedSimpArgs false
set_option linter.unusedVariables false
variable {G : Glob}
def kp26 : Keep := fun i => if i = 7 then ⟨[1, 2, 25, 26], [2], []⟩ else if i = 14 then ⟨[2, 8, 42, 43, 44], [2], []⟩ else if i = 23 then ⟨[8, 67, 68, 69], [], []⟩ else ⟨[], [], []⟩
theorem w26 {T : Tab} (hT38 : T 38 = some G_Lref09_Check) (a0 : Tapi_Tx) (a1 : (List Tapi_Coin)) (x : Int × Int) (hr : Lref10_Fee a0 a1 = some x) : ∃ kp fl n, execFn tt T G kp fl n Try.f26 [.agg ([.v (.int .u32 a0.1), .slice .no (List.map eapi_Input a0.2.1), .slice .no (List.map eapi_Output a0.2.2.1), .v (.int .u32 a0.2.2.2)]), .one (.slice .no (List.map eapi_Coin a1))] = some (.tup [.one (.v (.int .i64 x.1)), .one (.v (.int .i64 x.2))], []) := by
  refine fnE (kp := kp26) (w := false) body26 ?_
  unfold c26
  rw [Try.ntmps26]
  unfold Lref10_Fee at hr
  refine ee_seq_reg rfl (by simp [-chunk, -Cell.isSl, -callOp, callOp_eq, ]; rfl) ?_
  refine ee_assoc ?_
  obtain ⟨y28, hy28, hr⟩ := Option.bind_eq_some_iff.1 hr
  have ehy28 := G_Lref09_Check_eq hy28
  try simp only [intsR_nil, intsR_cons, intsR_app, intsR_tk, intsR_dr, intsR_st, intsR_rep, List.map_nil, List.map_cons, List.map_append, List.map_take, List.map_drop, List.map_set, List.map_replicate, List.nil_append, List.cons_append, List.append_assoc, eapi_Input, eapi_Output, eapi_Spendable, eS_I_u8, eapi_Coin] at ehy28
  refine ee_seq_reg rfl (by simp [-chunk, -Cell.isSl, -callOp, callOp_eq, hT38, ehy28]; rfl) ?_
  refine ee_assoc ?_
  refine ee_seq_reg rfl (by simp [-chunk, -Cell.isSl, -callOp, callOp_eq, ]; rfl) ?_
  by_cases c29 : y28 = 0
  · skip
    rw [if_neg] at hr
    rotate_left
    · simp [eq_true c29]
    refine ee_seq_condF (by simp [bV, eq_true c29]) ?_
    refine ee_seq_skip ?_
    refine ee_assoc ?_
    refine ee_seq_reg rfl (by simp [-chunk, -Cell.isSl, -callOp, callOp_eq, eq_true c29]; rfl) ?_
    by_cases c30 : (a1.length : Int) = (a0.2.1.length : Int)
    · skip
      have c30N := c30
      try simp at c30N
      rw [if_neg] at hr
      rotate_left
      · simp [eq_true c29, eq_true c30, eq_true c30N]
      refine ee_seq_condF (by simp [bV, eq_true c29, eq_true c30, eq_true c30N]) ?_
      refine ee_seq_skip ?_
      refine ee_assoc ?_
      refine ee_seq_reg rfl (by simp [-chunk, -Cell.isSl, -callOp, callOp_eq, eq_true c29, eq_true c30, eq_true c30N]; rfl) ?_
      refine ee_seq_block ?_
      refine ee_loop (kq := ⟨[1, 2, 25, 26], [2], []⟩) (H := fun (s : Int) => match s with | p7 => (⟨(und 1 ++ ([.one (.slice .no (List.map eapi_Coin a1)), .ptr 2 0 0 0 4] ++ (und 22 ++ ([.one (.v (.int .i64 (a1.length : Int))), .one (.v (.int .i64 p7))] ++ (und 54)))) : List PV), ([(2, ⟨0, 4, [[.v (.int .u32 a0.1), .slice .no (List.map eapi_Input a0.2.1), .slice .no (List.map eapi_Output a0.2.2.1), .v (.int .u32 a0.2.2.2)]], false, false⟩)] : Boxes)⟩ : ASt)) (by kernel_rfl) hr (by simp [und, List.replicate, eq_true c29, eq_true c30, eq_true c30N]) ?_
      rintro p7 x31r hr31
      simp only [Lref10_Fee_s1] at hr31
      unfold b26_1
      simp only [und, List.replicate, List.cons_append, List.nil_append]
      refine ee_seq_reg rfl (by simp [-chunk, -Cell.isSl, -callOp, callOp_eq, eq_true c29, eq_true c30, eq_true c30N]; rfl) ?_
      by_cases c32 : p7 < (a1.length : Int)
      · skip
        have c32N := c32
        try simp at c32N
        rw [if_pos] at hr31
        rotate_left
        · simp [eq_true c29, eq_true c30, eq_true c30N, c32, c32N]
        refine ee_seq_condT (by simp [bV, eq_true c29, eq_true c30, eq_true c30N, c32, c32N]) ?_
        refine ee_seq_skip ?_
        refine ee_seq_block ?_
        refine ee_seq_reg rfl (by simp [-chunk, -Cell.isSl, -callOp, callOp_eq, eq_true c29, eq_true c30, eq_true c30N, c32, c32N]; rfl) ?_
        obtain ⟨x33, hx33, hr31⟩ := Option.bind_eq_some_iff.1 hr31
        obtain ⟨hx33a, hx33b⟩ := idx_some hx33
        have hx33c := getE_of hx33b
        obtain ⟨x34, hx34, hr31⟩ := Option.bind_eq_some_iff.1 hr31
        obtain ⟨hx34a, hx34b⟩ := idx_some hx34
        have hx34c := getE_of hx34b
        refine ee_seq_draw rfl (by simp [-chunk, -Cell.isSl, -callOp, callOp_eq, hx33a, hx33b, hx33c, hx34a, hx34b, hx34c, eq_true c29, eq_true c30, eq_true c30N, c32, c32N]; first | exact ⟨rfl, rfl⟩ | rfl) (by kernel_rfl) ?_
        by_cases c35 : x33.1.1 = x34.1.1
        · skip
          by_cases c36 : x33.1.2 = x34.1.2
          · skip
            rw [if_neg] at hr31
            rotate_left
            · simp [eq_true c29, eq_true c30, eq_true c30N, c32, c32N, eq_true c35, eq_true c36]
            refine ee_condF (by simp [bV, eq_true c29, eq_true c30, eq_true c30N, c32, c32N, eq_true c35, eq_true c36]) ?_
            refine ee_skip ?_
            simp only [outOf, thenQ, QL, if_true, ite_true, reduceCtorEq, if_false]
            refine ee_reg rfl (by simp [-chunk, -Cell.isSl, -callOp, callOp_eq, eq_true c29, eq_true c30, eq_true c30N, c32, c32N, eq_true c35, eq_true c36]; rfl) ?_
            obtain rfl := Option.some.inj hr31
            simp only [outOf, thenQ, QL, if_true, ite_true, reduceCtorEq, if_false]
            simp [und, List.replicate, Nat.add_assoc, eq_true c29, eq_true c30, eq_true c30N, c32, c32N, eq_true c35, eq_true c36]
          · skip
            rw [if_pos] at hr31
            rotate_left
            · simp [eq_true c29, eq_true c30, eq_true c30N, c32, c32N, eq_true c35, c36]
            refine ee_condT (by simp [bV, eq_true c29, eq_true c30, eq_true c30N, c32, c32N, eq_true c35, c36]) ?_
            refine ee_seq_reg rfl (by simp [-chunk, -Cell.isSl, -callOp, callOp_eq, eq_true c29, eq_true c30, eq_true c30N, c32, c32N, eq_true c35, c36]; rfl) ?_
            refine ee_ret ?_
            obtain rfl := Option.some.inj hr31
            simp only [outOf, thenQ, QL, if_true, ite_true, reduceCtorEq, if_false]
            rintro rfl
            simp [FinQ, -chunk, -Cell.isSl, -callOp, callOp_eq, eq_true c29, eq_true c30, eq_true c30N, c32, c32N, eq_true c35, c36]
        · skip
          rw [if_pos] at hr31
          rotate_left
          · simp [eq_true c29, eq_true c30, eq_true c30N, c32, c32N, c35]
          refine ee_condT (by simp [bV, eq_true c29, eq_true c30, eq_true c30N, c32, c32N, c35]) ?_
          refine ee_seq_reg rfl (by simp [-chunk, -Cell.isSl, -callOp, callOp_eq, eq_true c29, eq_true c30, eq_true c30N, c32, c32N, c35]; rfl) ?_
          refine ee_ret ?_
          obtain rfl := Option.some.inj hr31
          simp only [outOf, thenQ, QL, if_true, ite_true, reduceCtorEq, if_false]
          rintro rfl
          simp [FinQ, -chunk, -Cell.isSl, -callOp, callOp_eq, eq_true c29, eq_true c30, eq_true c30N, c32, c32N, c35]
      · skip
        have c32N := c32
        try simp at c32N
        rw [if_neg] at hr31
        rotate_left
        · simp [eq_true c29, eq_true c30, eq_true c30N, c32, c32N]
        refine ee_seq_condF (by simp [bV, eq_true c29, eq_true c30, eq_true c30N, c32, c32N]) ?_
        refine ee_seq_exit ?_
        obtain ⟨r37, q37, rfl⟩ := Option.map_eq_some_iff.1 hr31
        simp only [outOf, thenQ, QL, if_true, ite_true, reduceCtorEq, if_false]
        rintro rfl
        try simp only [outOf, thenQ, QL, if_true, ite_true, reduceCtorEq, if_false]
        unfold Lref10_Fee_k1 at q37
        refine ee_seq_reg rfl (by simp [-chunk, -Cell.isSl, -callOp, callOp_eq, eq_true c29, eq_true c30, eq_true c30N, c32, c32N]; rfl) ?_
        refine ee_assoc ?_
        refine ee_seq_reg rfl (by simp [-chunk, -Cell.isSl, -callOp, callOp_eq, eq_true c29, eq_true c30, eq_true c30N, c32, c32N]; rfl) ?_
        refine ee_seq_block ?_
        refine ee_loop (kq := ⟨[2, 8, 42, 43, 44], [2], []⟩) (H := fun (s : Int × Int) => match s with | (p14, p15) => (⟨(und 2 ++ ([.ptr 2 0 0 0 4] ++ (und 5 ++ ([.one (.v (.int .i64 p14))] ++ (und 33 ++ ([.one (.slice .no (List.map eapi_Coin a1)), .one (.v (.int .i64 (a1.length : Int))), .one (.v (.int .i64 p15))] ++ (und 36)))))) : List PV), ([(2, ⟨0, 4, [[.v (.int .u32 a0.1), .slice .no (List.map eapi_Input a0.2.1), .slice .no (List.map eapi_Output a0.2.2.1), .v (.int .u32 a0.2.2.2)]], false, false⟩)] : Boxes)⟩ : ASt)) (by kernel_rfl) q37 (by simp [und, List.replicate, eq_true c29, eq_true c30, eq_true c30N, c32, c32N]) ?_
        rintro ⟨p14, p15⟩ x38r hr38
        simp only [Lref10_Fee_s2] at hr38
        unfold b26_2
        simp only [und, List.replicate, List.cons_append, List.nil_append]
        refine ee_seq_reg rfl (by simp [-chunk, -Cell.isSl, -callOp, callOp_eq, eq_true c29, eq_true c30, eq_true c30N, c32, c32N]; rfl) ?_
        by_cases c39 : p15 < (a1.length : Int)
        · skip
          have c39N := c39
          try simp at c39N
          rw [if_pos] at hr38
          rotate_left
          · simp [eq_true c29, eq_true c30, eq_true c30N, c32, c32N, c39, c39N]
          refine ee_seq_condT (by simp [bV, eq_true c29, eq_true c30, eq_true c30N, c32, c32N, c39, c39N]) ?_
          refine ee_seq_skip ?_
          refine ee_seq_block ?_
          obtain ⟨x40, hx40, hr38⟩ := Option.bind_eq_some_iff.1 hr38
          obtain ⟨hx40a, hx40b⟩ := idx_some hx40
          have hx40c := getE_of hx40b
          refine ee_seq_reg rfl (by simp [-chunk, -Cell.isSl, -callOp, callOp_eq, hx40a, hx40b, hx40c, eq_true c29, eq_true c30, eq_true c30N, c32, c32N, c39, c39N]; rfl) ?_
          refine ee_assoc ?_
          by_cases c41 : x40.2.1.1 < 0
          · skip
            refine ee_seq_reg rfl (by simp [-chunk, -Cell.isSl, -callOp, callOp_eq, eq_true c29, eq_true c30, eq_true c30N, c32, c32N, c39, c39N, c41]; rfl) ?_
            rw [if_pos] at hr38
            rotate_left
            · simp [eq_true c29, eq_true c30, eq_true c30N, c32, c32N, c39, c39N, c41]
            refine ee_seq_condT (by simp [bV, eq_true c29, eq_true c30, eq_true c30N, c32, c32N, c39, c39N, c41]) ?_
            refine ee_assoc ?_
            refine ee_seq_reg rfl (by simp [-chunk, -Cell.isSl, -callOp, callOp_eq, eq_true c29, eq_true c30, eq_true c30N, c32, c32N, c39, c39N, c41]; rfl) ?_
            refine ee_seq_ret ?_
            obtain rfl := Option.some.inj hr38
            simp only [outOf, thenQ, QL, if_true, ite_true, reduceCtorEq, if_false]
            rintro rfl
            simp [FinQ, -chunk, -Cell.isSl, -callOp, callOp_eq, eq_true c29, eq_true c30, eq_true c30N, c32, c32N, c39, c39N, c41]
          · skip
            refine ee_seq_reg rfl (by simp [-chunk, -Cell.isSl, -callOp, callOp_eq, eq_true c29, eq_true c30, eq_true c30N, c32, c32N, c39, c39N, c41]; rfl) ?_
            by_cases c42 : 2100000000000000 < x40.2.1.1
            · skip
              rw [if_pos] at hr38
              rotate_left
              · simp [eq_true c29, eq_true c30, eq_true c30N, c32, c32N, c39, c39N, c41, c42]
              refine ee_seq_condT (by simp [bV, eq_true c29, eq_true c30, eq_true c30N, c32, c32N, c39, c39N, c41, c42]) ?_
              refine ee_assoc ?_
              refine ee_seq_reg rfl (by simp [-chunk, -Cell.isSl, -callOp, callOp_eq, eq_true c29, eq_true c30, eq_true c30N, c32, c32N, c39, c39N, c41, c42]; rfl) ?_
              refine ee_seq_ret ?_
              obtain rfl := Option.some.inj hr38
              simp only [outOf, thenQ, QL, if_true, ite_true, reduceCtorEq, if_false]
              rintro rfl
              simp [FinQ, -chunk, -Cell.isSl, -callOp, callOp_eq, eq_true c29, eq_true c30, eq_true c30N, c32, c32N, c39, c39N, c41, c42]
            · skip
              rw [if_neg] at hr38
              rotate_left
              · simp [eq_true c29, eq_true c30, eq_true c30N, c32, c32N, c39, c39N, c41, c42]
              refine ee_seq_condF (by simp [bV, eq_true c29, eq_true c30, eq_true c30N, c32, c32N, c39, c39N, c41, c42]) ?_
              refine ee_seq_skip ?_
              refine ee_reg rfl (by simp [-chunk, -Cell.isSl, -callOp, callOp_eq, eq_true c29, eq_true c30, eq_true c30N, c32, c32N, c39, c39N, c41, c42]; rfl) ?_
              simp only [outOf, thenQ, QL, if_true, ite_true, reduceCtorEq, if_false]
              refine ee_reg rfl (by simp [-chunk, -Cell.isSl, -callOp, callOp_eq, eq_true c29, eq_true c30, eq_true c30N, c32, c32N, c39, c39N, c41, c42]; rfl) ?_
              obtain rfl := Option.some.inj hr38
              simp only [outOf, thenQ, QL, if_true, ite_true, reduceCtorEq, if_false]
              simp [und, List.replicate, Nat.add_assoc, eq_true c29, eq_true c30, eq_true c30N, c32, c32N, c39, c39N, c41, c42]
        · skip
          have c39N := c39
          try simp at c39N
          rw [if_neg] at hr38
          rotate_left
          · simp [eq_true c29, eq_true c30, eq_true c30N, c32, c32N, c39, c39N]
          refine ee_seq_condF (by simp [bV, eq_true c29, eq_true c30, eq_true c30N, c32, c32N, c39, c39N]) ?_
          refine ee_seq_exit ?_
          obtain ⟨r43, q43, rfl⟩ := Option.map_eq_some_iff.1 hr38
          simp only [outOf, thenQ, QL, if_true, ite_true, reduceCtorEq, if_false]
          rintro rfl
          try simp only [outOf, thenQ, QL, if_true, ite_true, reduceCtorEq, if_false]
          unfold Lref10_Fee_k2 at q43
          refine ee_assoc ?_
          refine ee_seq_reg rfl (by simp [-chunk, -Cell.isSl, -callOp, callOp_eq, eq_true c29, eq_true c30, eq_true c30N, c32, c32N, c39, c39N]; rfl) ?_
          by_cases c44 : 2100000000000000 < p14
          · skip
            rw [if_pos] at q43
            rotate_left
            · simp [eq_true c29, eq_true c30, eq_true c30N, c32, c32N, c39, c39N, c44]
            refine ee_seq_condT (by simp [bV, eq_true c29, eq_true c30, eq_true c30N, c32, c32N, c39, c39N, c44]) ?_
            refine ee_assoc ?_
            refine ee_seq_reg rfl (by simp [-chunk, -Cell.isSl, -callOp, callOp_eq, eq_true c29, eq_true c30, eq_true c30N, c32, c32N, c39, c39N, c44]; rfl) ?_
            refine ee_seq_ret ?_
            obtain rfl := Option.some.inj q43
            simp [FinQ, -chunk, -Cell.isSl, -callOp, callOp_eq, eq_true c29, eq_true c30, eq_true c30N, c32, c32N, c39, c39N, c44]
          · skip
            rw [if_neg] at q43
            rotate_left
            · simp [eq_true c29, eq_true c30, eq_true c30N, c32, c32N, c39, c39N, c44]
            refine ee_seq_condF (by simp [bV, eq_true c29, eq_true c30, eq_true c30N, c32, c32N, c39, c39N, c44]) ?_
            refine ee_seq_skip ?_
            refine ee_assoc ?_
            refine ee_seq_reg rfl (by simp [-chunk, -Cell.isSl, -callOp, callOp_eq, eq_true c29, eq_true c30, eq_true c30N, c32, c32N, c39, c39N, c44]; rfl) ?_
            refine ee_seq_block ?_
            refine ee_loop (kq := ⟨[8, 67, 68, 69], [], []⟩) (H := fun (s : Int × Int) => match s with | (p21, p22) => (⟨(und 8 ++ ([.one (.v (.int .i64 p21))] ++ (und 58 ++ ([.one (.slice .no (List.map eapi_Output a0.2.2.1)), .one (.v (.int .i64 (a0.2.2.1.length : Int))), .one (.v (.int .i64 p22))] ++ (und 11)))) : List PV), ([] : Boxes)⟩ : ASt)) (by kernel_rfl) q43 (by simp [und, List.replicate, eq_true c29, eq_true c30, eq_true c30N, c32, c32N, c39, c39N, c44]) ?_
            rintro ⟨p21, p22⟩ x45r hr45
            simp only [Lref10_Fee_s3] at hr45
            unfold b26_3
            simp only [und, List.replicate, List.cons_append, List.nil_append]
            refine ee_seq_reg rfl (by simp [-chunk, -Cell.isSl, -callOp, callOp_eq, eq_true c29, eq_true c30, eq_true c30N, c32, c32N, c39, c39N, c44]; rfl) ?_
            by_cases c46 : p22 < (a0.2.2.1.length : Int)
            · skip
              have c46N := c46
              try simp at c46N
              rw [if_pos] at hr45
              rotate_left
              · simp [eq_true c29, eq_true c30, eq_true c30N, c32, c32N, c39, c39N, c44, c46, c46N]
              refine ee_seq_condT (by simp [bV, eq_true c29, eq_true c30, eq_true c30N, c32, c32N, c39, c39N, c44, c46, c46N]) ?_
              refine ee_seq_skip ?_
              refine ee_seq_block ?_
              obtain ⟨x47, hx47, hr45⟩ := Option.bind_eq_some_iff.1 hr45
              obtain ⟨hx47a, hx47b⟩ := idx_some hx47
              have hx47c := getE_of hx47b
              refine ee_seq_reg rfl (by simp [-chunk, -Cell.isSl, -callOp, callOp_eq, hx47a, hx47b, hx47c, eq_true c29, eq_true c30, eq_true c30N, c32, c32N, c39, c39N, c44, c46, c46N]; rfl) ?_
              refine ee_reg rfl (by simp [-chunk, -Cell.isSl, -callOp, callOp_eq, eq_true c29, eq_true c30, eq_true c30N, c32, c32N, c39, c39N, c44, c46, c46N]; rfl) ?_
              simp only [outOf, thenQ, QL, if_true, ite_true, reduceCtorEq, if_false]
              refine ee_reg rfl (by simp [-chunk, -Cell.isSl, -callOp, callOp_eq, eq_true c29, eq_true c30, eq_true c30N, c32, c32N, c39, c39N, c44, c46, c46N]; rfl) ?_
              obtain rfl := Option.some.inj hr45
              simp only [outOf, thenQ, QL, if_true, ite_true, reduceCtorEq, if_false]
              simp [und, List.replicate, Nat.add_assoc, eq_true c29, eq_true c30, eq_true c30N, c32, c32N, c39, c39N, c44, c46, c46N]
            · skip
              have c46N := c46
              try simp at c46N
              rw [if_neg] at hr45
              rotate_left
              · simp [eq_true c29, eq_true c30, eq_true c30N, c32, c32N, c39, c39N, c44, c46, c46N]
              refine ee_seq_condF (by simp [bV, eq_true c29, eq_true c30, eq_true c30N, c32, c32N, c39, c39N, c44, c46, c46N]) ?_
              refine ee_seq_exit ?_
              obtain ⟨r48, q48, rfl⟩ := Option.map_eq_some_iff.1 hr45
              simp only [outOf, thenQ, QL, if_true, ite_true, reduceCtorEq, if_false]
              rintro rfl
              try simp only [outOf, thenQ, QL, if_true, ite_true, reduceCtorEq, if_false]
              unfold Lref10_Fee_k3 at q48
              refine ee_assoc ?_
              refine ee_seq_reg rfl (by simp [-chunk, -Cell.isSl, -callOp, callOp_eq, eq_true c29, eq_true c30, eq_true c30N, c32, c32N, c39, c39N, c44, c46, c46N]; rfl) ?_
              by_cases c49 : p21 < 0
              · skip
                rw [if_pos] at q48
                rotate_left
                · simp [eq_true c29, eq_true c30, eq_true c30N, c32, c32N, c39, c39N, c44, c46, c46N, c49]
                refine ee_seq_condT (by simp [bV, eq_true c29, eq_true c30, eq_true c30N, c32, c32N, c39, c39N, c44, c46, c46N, c49]) ?_
                refine ee_assoc ?_
                refine ee_seq_reg rfl (by simp [-chunk, -Cell.isSl, -callOp, callOp_eq, eq_true c29, eq_true c30, eq_true c30N, c32, c32N, c39, c39N, c44, c46, c46N, c49]; rfl) ?_
                refine ee_seq_ret ?_
                obtain rfl := Option.some.inj q48
                simp [FinQ, -chunk, -Cell.isSl, -callOp, callOp_eq, eq_true c29, eq_true c30, eq_true c30N, c32, c32N, c39, c39N, c44, c46, c46N, c49]
              · skip
                rw [if_neg] at q48
                rotate_left
                · simp [eq_true c29, eq_true c30, eq_true c30N, c32, c32N, c39, c39N, c44, c46, c46N, c49]
                refine ee_seq_condF (by simp [bV, eq_true c29, eq_true c30, eq_true c30N, c32, c32N, c39, c39N, c44, c46, c46N, c49]) ?_
                refine ee_seq_skip ?_
                refine ee_seq_reg rfl (by simp [-chunk, -Cell.isSl, -callOp, callOp_eq, eq_true c29, eq_true c30, eq_true c30N, c32, c32N, c39, c39N, c44, c46, c46N, c49]; rfl) ?_
                refine ee_ret ?_
                obtain rfl := Option.some.inj q48
                simp [FinQ, -chunk, -Cell.isSl, -callOp, callOp_eq, eq_true c29, eq_true c30, eq_true c30N, c32, c32N, c39, c39N, c44, c46, c46N, c49]
    · skip
      have c30N := c30
      try simp at c30N
      rw [if_pos] at hr
      rotate_left
      · simp [eq_true c29, c30, c30N]
      refine ee_seq_condT (by simp [bV, eq_true c29, c30, c30N]) ?_
      refine ee_assoc ?_
      refine ee_seq_reg rfl (by simp [-chunk, -Cell.isSl, -callOp, callOp_eq, eq_true c29, c30, c30N]; rfl) ?_
      refine ee_seq_ret ?_
      obtain rfl := Option.some.inj hr
      simp [FinQ, -chunk, -Cell.isSl, -callOp, callOp_eq, eq_true c29, c30, c30N]
  · skip
    rw [if_pos] at hr
    rotate_left
    · simp [c29]
    refine ee_seq_condT (by simp [bV, c29]) ?_
    refine ee_assoc ?_
    refine ee_seq_reg rfl (by simp [-chunk, -Cell.isSl, -callOp, callOp_eq, c29]; rfl) ?_
    refine ee_seq_ret ?_
    obtain rfl := Option.some.inj hr
    simp [FinQ, -chunk, -Cell.isSl, -callOp, callOp_eq, c29]
def kp21 : Keep := fun i => if i = 4 then ⟨[1, 3], [1], []⟩ else ⟨[], [], []⟩
theorem w21 {T : Tab} (hT26 : T 26 = some G_Lref10_Fee) (hT30 : T 30 = some G_Lref34_in) (hT38 : T 38 = some G_Lref09_Check) (hT39 : T 39 = some G_Lref09_Coinbase) (a0 : Tapi_Plan) (x : Bool) (hr : Lref34_Valid a0 = some x) : ∃ kp fl n, execFn tt T G kp fl n Try.f21 [.agg ([.v (.int .u32 a0.1.1), .slice .no (List.map eapi_Input a0.1.2.1), .slice .no (List.map eapi_Output a0.1.2.2.1), .v (.int .u32 a0.1.2.2.2), .slice .no (List.map eapi_Coin a0.2.1), .v (.int .i64 a0.2.2.1), .v (.int .i64 a0.2.2.2)])] = some (.one (.v (.bool x)), []) := by
  refine fnE (kp := kp21) (w := false) body21 ?_
  unfold c21
  rw [Try.ntmps21]
  unfold Lref34_Valid at hr
  refine ee_seq_reg rfl (by simp [-chunk, -Cell.isSl, -callOp, callOp_eq, ]; rfl) ?_
  refine ee_assoc ?_
  obtain ⟨y13, hy13, hr⟩ := Option.bind_eq_some_iff.1 hr
  have ehy13 := G_Lref09_Check_eq hy13
  try simp only [intsR_nil, intsR_cons, intsR_app, intsR_tk, intsR_dr, intsR_st, intsR_rep, List.map_nil, List.map_cons, List.map_append, List.map_take, List.map_drop, List.map_set, List.map_replicate, List.nil_append, List.cons_append, List.append_assoc, eapi_Input, eapi_Output, eapi_Spendable, eS_I_u8, eapi_Coin] at ehy13
  by_cases c14 : y13 = 0
  · skip
    rw [if_neg] at hr
    rotate_left
    · simp [eq_true c14]
    obtain ⟨z15, hz15, hr⟩ := Option.bind_eq_some_iff.1 hr
    obtain ⟨y16, hy16, hz15⟩ := Option.bind_eq_some_iff.1 hz15
    have ehy16 := G_Lref09_Coinbase_eq hy16
    try simp only [intsR_nil, intsR_cons, intsR_app, intsR_tk, intsR_dr, intsR_st, intsR_rep, List.map_nil, List.map_cons, List.map_append, List.map_take, List.map_drop, List.map_set, List.map_replicate, List.nil_append, List.cons_append, List.append_assoc, eapi_Input, eapi_Output, eapi_Spendable, eS_I_u8, eapi_Coin] at ehy16
    obtain rfl := Option.some.inj hz15
    by_cases c17 : y16 = true
    · skip
      rw [if_pos] at hr
      rotate_left
      · simp [eq_true c14, c17]
      obtain ⟨z18, hz18, hr⟩ := Option.bind_eq_some_iff.1 hr
      obtain rfl := Option.some.inj hz18
      refine ee_seq_reg rfl (by simp [-chunk, -Cell.isSl, -callOp, callOp_eq, hT38, ehy13, hT39, ehy16, eq_true c14, c17]; rfl) ?_
      rw [if_pos] at hr
      rotate_left
      · simp [eq_true c14, c17]
      refine ee_seq_condT (by simp [bV, eq_true c14, c17]) ?_
      refine ee_assoc ?_
      refine ee_seq_reg rfl (by simp [-chunk, -Cell.isSl, -callOp, callOp_eq, eq_true c14, c17]; rfl) ?_
      refine ee_seq_ret ?_
      obtain rfl := Option.some.inj hr
      simp [FinQ, -chunk, -Cell.isSl, -callOp, callOp_eq, eq_true c14, c17]
    · skip
      rw [if_neg] at hr
      rotate_left
      · simp [eq_true c14, c17]
      obtain ⟨z19, hz19, hr⟩ := Option.bind_eq_some_iff.1 hr
      obtain ⟨y20, hy20, hz19⟩ := Option.bind_eq_some_iff.1 hz19
      have ehy20 := G_Lref34_in_eq hy20
      try simp only [intsR_nil, intsR_cons, intsR_app, intsR_tk, intsR_dr, intsR_st, intsR_rep, List.map_nil, List.map_cons, List.map_append, List.map_take, List.map_drop, List.map_set, List.map_replicate, List.nil_append, List.cons_append, List.append_assoc, eapi_Input, eapi_Output, eapi_Spendable, eS_I_u8, eapi_Coin] at ehy20
      obtain rfl := Option.some.inj hz19
      refine ee_seq_reg rfl (by simp [-chunk, -Cell.isSl, -callOp, callOp_eq, hT38, ehy13, hT39, ehy16, hT30, ehy20, eq_true c14, c17]; rfl) ?_
      by_cases c21 : y20 = true
      · skip
        rw [if_neg] at hr
        rotate_left
        · simp [eq_true c14, c17, c21]
        refine ee_seq_condF (by simp [bV, eq_true c14, c17, c21]) ?_
        refine ee_seq_skip ?_
        refine ee_assoc ?_
        refine ee_seq_reg rfl (by simp [-chunk, -Cell.isSl, -callOp, callOp_eq, eq_true c14, c17, c21]; rfl) ?_
        refine ee_seq_block ?_
        refine ee_loop (kq := ⟨[1, 3], [1], []⟩) (H := fun (s : Int) => match s with | p9 => (⟨(und 1 ++ ([.ptr 1 0 0 0 7] ++ (und 1 ++ ([.one (.v (.int .i64 p9))] ++ (und 55)))) : List PV), ([(1, ⟨0, 7, [[.v (.int .u32 a0.1.1), .slice .no (List.map eapi_Input a0.1.2.1), .slice .no (List.map eapi_Output a0.1.2.2.1), .v (.int .u32 a0.1.2.2.2), .slice .no (List.map eapi_Coin a0.2.1), .v (.int .i64 a0.2.2.1), .v (.int .i64 a0.2.2.2)]], false, false⟩)] : Boxes)⟩ : ASt)) (by kernel_rfl) hr (by simp [und, List.replicate, eq_true c14, c17, c21]) ?_
        rintro p9 x22r hr22
        simp only [Lref34_Valid_s1] at hr22
        unfold b21_1
        simp only [und, List.replicate, List.cons_append, List.nil_append]
        refine ee_assoc ?_
        refine ee_seq_reg rfl (by simp [-chunk, -Cell.isSl, -callOp, callOp_eq, eq_true c14, c17, c21]; rfl) ?_
        by_cases c23 : p9 < (a0.1.2.1.length : Int)
        · skip
          have c23N := c23
          try simp at c23N
          rw [if_pos] at hr22
          rotate_left
          · simp [eq_true c14, c17, c21, c23, c23N]
          refine ee_seq_condT (by simp [bV, eq_true c14, c17, c21, c23, c23N]) ?_
          refine ee_seq_skip ?_
          refine ee_seq_block ?_
          obtain ⟨x24, hx24, hr22⟩ := Option.bind_eq_some_iff.1 hr22
          obtain ⟨hx24a, hx24b⟩ := idx_some hx24
          have hx24c := getE_of hx24b
          refine ee_seq_reg rfl (by simp [-chunk, -Cell.isSl, -callOp, callOp_eq, hx24a, hx24b, hx24c, eq_true c14, c17, c21, c23, c23N]; rfl) ?_
          by_cases c25 : 0 < (x24.2.2.length : Int)
          · skip
            have c25N := c25
            try simp at c25N
            rw [if_pos] at hr22
            rotate_left
            · simp [eq_true c14, c17, c21, c23, c23N, c25, c25N]
            refine ee_condT (by simp [bV, eq_true c14, c17, c21, c23, c23N, c25, c25N]) ?_
            refine ee_seq_reg rfl (by simp [-chunk, -Cell.isSl, -callOp, callOp_eq, eq_true c14, c17, c21, c23, c23N, c25, c25N]; rfl) ?_
            refine ee_ret ?_
            obtain rfl := Option.some.inj hr22
            simp only [outOf, thenQ, QL, if_true, ite_true, reduceCtorEq, if_false]
            rintro rfl
            simp [FinQ, -chunk, -Cell.isSl, -callOp, callOp_eq, eq_true c14, c17, c21, c23, c23N, c25, c25N]
          · skip
            have c25N := c25
            try simp at c25N
            rw [if_neg] at hr22
            rotate_left
            · simp [eq_true c14, c17, c21, c23, c23N, c25, c25N]
            refine ee_condF (by simp [bV, eq_true c14, c17, c21, c23, c23N, c25, c25N]) ?_
            refine ee_skip ?_
            simp only [outOf, thenQ, QL, if_true, ite_true, reduceCtorEq, if_false]
            refine ee_reg rfl (by simp [-chunk, -Cell.isSl, -callOp, callOp_eq, eq_true c14, c17, c21, c23, c23N, c25, c25N]; rfl) ?_
            obtain rfl := Option.some.inj hr22
            simp only [outOf, thenQ, QL, if_true, ite_true, reduceCtorEq, if_false]
            simp [und, List.replicate, Nat.add_assoc, eq_true c14, c17, c21, c23, c23N, c25, c25N]
        · skip
          have c23N := c23
          try simp at c23N
          rw [if_neg] at hr22
          rotate_left
          · simp [eq_true c14, c17, c21, c23, c23N]
          refine ee_seq_condF (by simp [bV, eq_true c14, c17, c21, c23, c23N]) ?_
          refine ee_seq_exit ?_
          obtain ⟨r26, q26, rfl⟩ := Option.map_eq_some_iff.1 hr22
          simp only [outOf, thenQ, QL, if_true, ite_true, reduceCtorEq, if_false]
          rintro rfl
          try simp only [outOf, thenQ, QL, if_true, ite_true, reduceCtorEq, if_false]
          unfold Lref34_Valid_k1 at q26
          obtain ⟨y27, hy27, q26⟩ := Option.bind_eq_some_iff.1 q26
          have ehy27 := G_Lref10_Fee_eq hy27
          try simp only [intsR_nil, intsR_cons, intsR_app, intsR_tk, intsR_dr, intsR_st, intsR_rep, List.map_nil, List.map_cons, List.map_append, List.map_take, List.map_drop, List.map_set, List.map_replicate, List.nil_append, List.cons_append, List.append_assoc, eapi_Input, eapi_Output, eapi_Spendable, eS_I_u8, eapi_Coin] at ehy27
          refine ee_seq_reg rfl (by simp [-chunk, -Cell.isSl, -callOp, callOp_eq, hT26, ehy27, eq_true c14, c17, c21, c23, c23N]; rfl) ?_
          by_cases c28 : y27.2 = 0
          · skip
            refine ee_seq_reg rfl (by simp [-chunk, -Cell.isSl, -callOp, callOp_eq, eq_true c14, c17, c21, c23, c23N, eq_true c28]; rfl) ?_
            refine ee_ret ?_
            obtain rfl := Option.some.inj q26
            simp [FinQ, -chunk, -Cell.isSl, -callOp, callOp_eq, eq_true c14, c17, c21, c23, c23N, eq_true c28]
          · skip
            refine ee_seq_reg rfl (by simp [-chunk, -Cell.isSl, -callOp, callOp_eq, eq_true c14, c17, c21, c23, c23N, c28]; rfl) ?_
            refine ee_ret ?_
            obtain rfl := Option.some.inj q26
            simp [FinQ, -chunk, -Cell.isSl, -callOp, callOp_eq, eq_true c14, c17, c21, c23, c23N, c28]
      · skip
        rw [if_pos] at hr
        rotate_left
        · simp [eq_true c14, c17, c21]
        refine ee_seq_condT (by simp [bV, eq_true c14, c17, c21]) ?_
        refine ee_assoc ?_
        refine ee_seq_reg rfl (by simp [-chunk, -Cell.isSl, -callOp, callOp_eq, eq_true c14, c17, c21]; rfl) ?_
        refine ee_seq_ret ?_
        obtain rfl := Option.some.inj hr
        simp [FinQ, -chunk, -Cell.isSl, -callOp, callOp_eq, eq_true c14, c17, c21]
  · skip
    rw [if_pos] at hr
    rotate_left
    · simp [c14]
    obtain ⟨z29, hz29, hr⟩ := Option.bind_eq_some_iff.1 hr
    obtain rfl := Option.some.inj hz29
    rw [if_pos] at hr
    rotate_left
    · simp [c14]
    obtain ⟨z30, hz30, hr⟩ := Option.bind_eq_some_iff.1 hr
    obtain rfl := Option.some.inj hz30
    refine ee_seq_reg rfl (by simp [-chunk, -Cell.isSl, -callOp, callOp_eq, hT38, ehy13, c14]; rfl) ?_
    rw [if_pos] at hr
    rotate_left
    · simp [c14]
    refine ee_seq_condT (by simp [bV, c14]) ?_
    refine ee_assoc ?_
    refine ee_seq_reg rfl (by simp [-chunk, -Cell.isSl, -callOp, callOp_eq, c14]; rfl) ?_
    refine ee_seq_ret ?_
    obtain rfl := Option.some.inj hr
    simp [FinQ, -chunk, -Cell.isSl, -callOp, callOp_eq, c14]
end Go.Proofs.Ytanhccemhpmnhaa
