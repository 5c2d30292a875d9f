import Derived.Test.YtanhccemhpmnhaaLfK
import Derived.Test.YtanhccemhpmnhaaCode
namespace Go.Proofs.Ytanhccemhpmnhaa
open Go.RowKit
open Go.Av
open Go.Lc
set_option maxRecDepth 100000
set_option linter.unusedSimpArgs false
set_option linter.unusedVariables false
variable {G : Glob}
def kp38 : Keep := fun i => if i = 7 then ⟨[1, 3, 24, 25, 26], [1], []⟩ else if i = 16 then ⟨[1, 42, 43], [1], []⟩ else if i = 19 then ⟨[1, 6, 7, 42, 43], [1], []⟩ else if i = 25 then ⟨[1, 66, 67, 68], [1], []⟩ else ⟨[], [], []⟩
theorem w38 {T : Tab} (hT39 : T 39 = some G_Lref09_Coinbase) (hT48 : T 48 = some G_Lref09_Fits) (hT53 : T 53 = some G_Lref09_Null) (a0 : Tapi_Tx) (x : Int) (hr : Lref09_Check a0 = some x) : ∃ kp fl n, execFn tt T G kp fl n Try.f38 [.agg ([.v (.int .u32 a0.1), .slice .no (List.map eapi_Input a0.2.1), .slice .no (List.map eapi_Output a0.2.2.1), .v (.int .u32 a0.2.2.2)])] = some (.one (.v (.int .i64 x)), []) := by
  refine fnE (kp := kp38) (w := false) body38 ?_
  unfold c38
  rw [Try.ntmps38]
  unfold Lref09_Check at hr
  refine ee_seq_reg rfl (by simp [-chunk, -Cell.isSl, -callOp, callOp_eq, ]; rfl) ?_
  refine ee_assoc ?_
  obtain ⟨y63, hy63, hr⟩ := Option.bind_eq_some_iff.1 hr
  have ehy63 := G_Lref09_Fits_eq hy63
  try simp only [intsR_nil, intsR_cons, intsR_app, intsR_tk, intsR_dr, intsR_st, intsR_rep, List.map_nil, List.map_cons, List.map_append, List.map_take, List.map_drop, List.map_set, List.map_replicate, List.nil_append, List.cons_append, List.append_assoc, eapi_Input, eapi_Output, eapi_Spendable, eS_I_u8, eapi_Coin] at ehy63
  refine ee_seq_reg rfl (by simp [-chunk, -Cell.isSl, -callOp, callOp_eq, hT48, ehy63]; rfl) ?_
  by_cases c64 : y63 = true
  · skip
    rw [if_neg] at hr
    rotate_left
    · simp [c64]
    refine ee_seq_condF (by simp [bV, c64]) ?_
    refine ee_seq_skip ?_
    refine ee_assoc ?_
    by_cases c65 : (a0.2.1.length : Int) = 0
    · skip
      have c65N := c65
      try simp at c65N
      refine ee_seq_reg rfl (by simp [-chunk, -Cell.isSl, -callOp, callOp_eq, c64, eq_true c65, eq_true c65N]; rfl) ?_
      rw [if_pos] at hr
      rotate_left
      · simp [c64, eq_true c65, eq_true c65N]
      refine ee_seq_condT (by simp [bV, c64, eq_true c65, eq_true c65N]) ?_
      refine ee_assoc ?_
      refine ee_seq_reg rfl (by simp [-chunk, -Cell.isSl, -callOp, callOp_eq, c64, eq_true c65, eq_true c65N]; rfl) ?_
      refine ee_seq_ret ?_
      obtain rfl := Option.some.inj hr
      simp [FinQ, -chunk, -Cell.isSl, -callOp, callOp_eq, c64, eq_true c65, eq_true c65N]
    · skip
      have c65N := c65
      try simp at c65N
      refine ee_seq_reg rfl (by simp [-chunk, -Cell.isSl, -callOp, callOp_eq, c64, c65, c65N]; rfl) ?_
      by_cases c66 : (a0.2.2.1.length : Int) = 0
      · skip
        have c66N := c66
        try simp at c66N
        rw [if_pos] at hr
        rotate_left
        · simp [c64, c65, c65N, eq_true c66, eq_true c66N]
        refine ee_seq_condT (by simp [bV, c64, c65, c65N, eq_true c66, eq_true c66N]) ?_
        refine ee_assoc ?_
        refine ee_seq_reg rfl (by simp [-chunk, -Cell.isSl, -callOp, callOp_eq, c64, c65, c65N, eq_true c66, eq_true c66N]; rfl) ?_
        refine ee_seq_ret ?_
        obtain rfl := Option.some.inj hr
        simp [FinQ, -chunk, -Cell.isSl, -callOp, callOp_eq, c64, c65, c65N, eq_true c66, eq_true c66N]
      · skip
        have c66N := c66
        try simp at c66N
        rw [if_neg] at hr
        rotate_left
        · simp [c64, c65, c65N, c66, c66N]
        refine ee_seq_condF (by simp [bV, c64, c65, c65N, c66, c66N]) ?_
        refine ee_seq_skip ?_
        refine ee_seq_reg rfl (by simp [-chunk, -Cell.isSl, -callOp, callOp_eq, c64, c65, c65N, c66, c66N]; rfl) ?_
        refine ee_assoc ?_
        refine ee_seq_reg rfl (by simp [-chunk, -Cell.isSl, -callOp, callOp_eq, c64, c65, c65N, c66, c66N]; rfl) ?_
        refine ee_seq_block ?_
        refine ee_loop (kq := ⟨[1, 3, 24, 25, 26], [1], []⟩) (H := fun (s : Int × Int) => match s with | (p6, p7) => (⟨(und 1 ++ ([.ptr 1 0 0 0 4] ++ (und 1 ++ ([.one (.v (.int .i64 p6))] ++ (und 20 ++ ([.one (.slice .no (List.map eapi_Output a0.2.2.1)), .one (.v (.int .i64 (a0.2.2.1.length : Int))), .one (.v (.int .i64 p7))] ++ (und 54)))))) : List PV), ([(1, ⟨0, 4, [[.v (.int .u32 a0.1), .slice .no (List.map eapi_Input a0.2.1), .slice .no (List.map eapi_Output a0.2.2.1), .v (.int .u32 a0.2.2.2)]], false, false⟩)] : Boxes)⟩ : ASt)) (by kernel_rfl) hr (by simp [und, List.replicate, c64, c65, c65N, c66, c66N]) ?_
        rintro ⟨p6, p7⟩ x67r hr67
        simp only [Lref09_Check_s1] at hr67
        unfold b38_1
        simp only [und, List.replicate, List.cons_append, List.nil_append]
        refine ee_seq_reg rfl (by simp [-chunk, -Cell.isSl, -callOp, callOp_eq, c64, c65, c65N, c66, c66N]; rfl) ?_
        by_cases c68 : p7 < (a0.2.2.1.length : Int)
        · skip
          have c68N := c68
          try simp at c68N
          rw [if_pos] at hr67
          rotate_left
          · simp [c64, c65, c65N, c66, c66N, c68, c68N]
          refine ee_seq_condT (by simp [bV, c64, c65, c65N, c66, c66N, c68, c68N]) ?_
          refine ee_seq_skip ?_
          refine ee_seq_block ?_
          obtain ⟨x69, hx69, hr67⟩ := Option.bind_eq_some_iff.1 hr67
          obtain ⟨hx69a, hx69b⟩ := idx_some hx69
          have hx69c := getE_of hx69b
          refine ee_seq_reg rfl (by simp [-chunk, -Cell.isSl, -callOp, callOp_eq, hx69a, hx69b, hx69c, c64, c65, c65N, c66, c66N, c68, c68N]; rfl) ?_
          refine ee_assoc ?_
          refine ee_seq_reg rfl (by simp [-chunk, -Cell.isSl, -callOp, callOp_eq, c64, c65, c65N, c66, c66N, c68, c68N]; rfl) ?_
          by_cases c70 : 2100000000000000 < x69.1
          · skip
            rw [if_pos] at hr67
            rotate_left
            · simp [c64, c65, c65N, c66, c66N, c68, c68N, c70]
            refine ee_seq_condT (by simp [bV, c64, c65, c65N, c66, c66N, c68, c68N, c70]) ?_
            refine ee_assoc ?_
            refine ee_seq_reg rfl (by simp [-chunk, -Cell.isSl, -callOp, callOp_eq, c64, c65, c65N, c66, c66N, c68, c68N, c70]; rfl) ?_
            refine ee_seq_ret ?_
            obtain rfl := Option.some.inj hr67
            simp only [outOf, thenQ, QL, if_true, ite_true, reduceCtorEq, if_false]
            rintro rfl
            simp [FinQ, -chunk, -Cell.isSl, -callOp, callOp_eq, c64, c65, c65N, c66, c66N, c68, c68N, c70]
          · skip
            rw [if_neg] at hr67
            rotate_left
            · simp [c64, c65, c65N, c66, c66N, c68, c68N, c70]
            refine ee_seq_condF (by simp [bV, c64, c65, c65N, c66, c66N, c68, c68N, c70]) ?_
            refine ee_seq_skip ?_
            refine ee_reg rfl (by simp [-chunk, -Cell.isSl, -callOp, callOp_eq, c64, c65, c65N, c66, c66N, c68, c68N, c70]; rfl) ?_
            simp only [outOf, thenQ, QL, if_true, ite_true, reduceCtorEq, if_false]
            refine ee_reg rfl (by simp [-chunk, -Cell.isSl, -callOp, callOp_eq, c64, c65, c65N, c66, c66N, c68, c68N, c70]; rfl) ?_
            obtain rfl := Option.some.inj hr67
            simp only [outOf, thenQ, QL, if_true, ite_true, reduceCtorEq, if_false]
            simp [und, List.replicate, Nat.add_assoc, c64, c65, c65N, c66, c66N, c68, c68N, c70]
        · skip
          have c68N := c68
          try simp at c68N
          rw [if_neg] at hr67
          rotate_left
          · simp [c64, c65, c65N, c66, c66N, c68, c68N]
          refine ee_seq_condF (by simp [bV, c64, c65, c65N, c66, c66N, c68, c68N]) ?_
          refine ee_seq_exit ?_
          obtain ⟨r71, q71, rfl⟩ := Option.map_eq_some_iff.1 hr67
          simp only [outOf, thenQ, QL, if_true, ite_true, reduceCtorEq, if_false]
          rintro rfl
          try simp only [outOf, thenQ, QL, if_true, ite_true, reduceCtorEq, if_false]
          unfold Lref09_Check_k1 at q71
          refine ee_assoc ?_
          refine ee_seq_reg rfl (by simp [-chunk, -Cell.isSl, -callOp, callOp_eq, c64, c65, c65N, c66, c66N, c68, c68N]; rfl) ?_
          by_cases c72 : 2100000000000000 < p6
          · skip
            rw [if_pos] at q71
            rotate_left
            · simp [c64, c65, c65N, c66, c66N, c68, c68N, c72]
            refine ee_seq_condT (by simp [bV, c64, c65, c65N, c66, c66N, c68, c68N, c72]) ?_
            refine ee_assoc ?_
            refine ee_seq_reg rfl (by simp [-chunk, -Cell.isSl, -callOp, callOp_eq, c64, c65, c65N, c66, c66N, c68, c68N, c72]; rfl) ?_
            refine ee_seq_ret ?_
            obtain rfl := Option.some.inj q71
            simp [FinQ, -chunk, -Cell.isSl, -callOp, callOp_eq, c64, c65, c65N, c66, c66N, c68, c68N, c72]
          · skip
            rw [if_neg] at q71
            rotate_left
            · simp [c64, c65, c65N, c66, c66N, c68, c68N, c72]
            refine ee_seq_condF (by simp [bV, c64, c65, c65N, c66, c66N, c68, c68N, c72]) ?_
            refine ee_seq_skip ?_
            refine ee_assoc ?_
            refine ee_seq_reg rfl (by simp [-chunk, -Cell.isSl, -callOp, callOp_eq, c64, c65, c65N, c66, c66N, c68, c68N, c72]; rfl) ?_
            refine ee_seq_block ?_
            refine ee_loop (kq := ⟨[1, 42, 43], [1], []⟩) (H := fun (s : Int) => match s with | p25 => (⟨(und 1 ++ ([.ptr 1 0 0 0 4] ++ (und 40 ++ ([.one (.v (.int .i64 (a0.2.1.length : Int))), .one (.v (.int .i64 p25))] ++ (und 37)))) : List PV), ([(1, ⟨0, 4, [[.v (.int .u32 a0.1), .slice .no (List.map eapi_Input a0.2.1), .slice .no (List.map eapi_Output a0.2.2.1), .v (.int .u32 a0.2.2.2)]], false, false⟩)] : Boxes)⟩ : ASt)) (by kernel_rfl) q71 (by simp [und, List.replicate, c64, c65, c65N, c66, c66N, c68, c68N, c72]) ?_
            rintro p25 x73r hr73
            simp only [Lref09_Check_s2] at hr73
            unfold b38_2
            simp only [und, List.replicate, List.cons_append, List.nil_append]
            refine ee_seq_reg rfl (by simp [-chunk, -Cell.isSl, -callOp, callOp_eq, c64, c65, c65N, c66, c66N, c68, c68N, c72]; rfl) ?_
            by_cases c74 : p25 < (a0.2.1.length : Int)
            · skip
              have c74N := c74
              try simp at c74N
              rw [if_pos] at hr73
              rotate_left
              · simp [c64, c65, c65N, c66, c66N, c68, c68N, c72, c74, c74N]
              refine ee_seq_condT (by simp [bV, c64, c65, c65N, c66, c66N, c68, c68N, c72, c74, c74N]) ?_
              refine ee_seq_skip ?_
              refine ee_seq_block ?_
              refine ee_seq_reg rfl (by simp [-chunk, -Cell.isSl, -callOp, callOp_eq, c64, c65, c65N, c66, c66N, c68, c68N, c72, c74, c74N]; rfl) ?_
              refine ee_seq_reg rfl (by simp [-chunk, -Cell.isSl, -callOp, callOp_eq, c64, c65, c65N, c66, c66N, c68, c68N, c72, c74, c74N]; rfl) ?_
              refine ee_block ?_
              refine ee_loop (kq := ⟨[1, 6, 7, 42, 43], [1], []⟩) (H := fun (s : Int) => match s with | p57 => (⟨(und 1 ++ ([.ptr 1 0 0 0 4] ++ (und 4 ++ ([.one (.v (.int .i64 p25)), .one (.v (.int .i64 p57))] ++ (und 34 ++ ([.one (.v (.int .i64 (a0.2.1.length : Int))), .one (.v (.int .i64 p25))] ++ (und 37)))))) : List PV), ([(1, ⟨0, 4, [[.v (.int .u32 a0.1), .slice .no (List.map eapi_Input a0.2.1), .slice .no (List.map eapi_Output a0.2.2.1), .v (.int .u32 a0.2.2.2)]], false, false⟩)] : Boxes)⟩ : ASt)) (by kernel_rfl) hr73 (by simp [und, List.replicate, c64, c65, c65N, c66, c66N, c68, c68N, c72, c74, c74N]) ?_
              rintro p57 x75r hr75
              simp only [Lref09_Check_s4] at hr75
              unfold b38_3
              simp only [und, List.replicate, List.cons_append, List.nil_append]
              refine ee_assoc ?_
              refine ee_seq_reg rfl (by simp [-chunk, -Cell.isSl, -callOp, callOp_eq, c64, c65, c65N, c66, c66N, c68, c68N, c72, c74, c74N]; rfl) ?_
              by_cases c76 : p57 < p25
              · skip
                rw [if_pos] at hr75
                rotate_left
                · simp [c64, c65, c65N, c66, c66N, c68, c68N, c72, c74, c74N, c76]
                refine ee_seq_condT (by simp [bV, c64, c65, c65N, c66, c66N, c68, c68N, c72, c74, c74N, c76]) ?_
                refine ee_seq_skip ?_
                refine ee_seq_block ?_
                obtain ⟨x77, hx77, hr75⟩ := Option.bind_eq_some_iff.1 hr75
                obtain ⟨hx77a, hx77b⟩ := idx_some hx77
                have hx77c := getE_of hx77b
                obtain ⟨x78, hx78, hr75⟩ := Option.bind_eq_some_iff.1 hr75
                obtain ⟨hx78a, hx78b⟩ := idx_some hx78
                have hx78c := getE_of hx78b
                refine ee_seq_draw rfl (by simp [-chunk, -Cell.isSl, -callOp, callOp_eq, hx77a, hx77b, hx77c, hx78a, hx78b, hx78c, c64, c65, c65N, c66, c66N, c68, c68N, c72, c74, c74N, c76]; first | exact ⟨rfl, rfl⟩ | rfl) (by kernel_rfl) ?_
                by_cases c79 : x77.1.1 = x78.1.1
                · skip
                  by_cases c80 : x77.1.2 = x78.1.2
                  · skip
                    rw [if_pos] at hr75
                    rotate_left
                    · simp [c64, c65, c65N, c66, c66N, c68, c68N, c72, c74, c74N, c76, eq_true c79, eq_true c80]
                    refine ee_condT (by simp [bV, c64, c65, c65N, c66, c66N, c68, c68N, c72, c74, c74N, c76, eq_true c79, eq_true c80]) ?_
                    refine ee_seq_reg rfl (by simp [-chunk, -Cell.isSl, -callOp, callOp_eq, c64, c65, c65N, c66, c66N, c68, c68N, c72, c74, c74N, c76, eq_true c79, eq_true c80]; rfl) ?_
                    refine ee_ret ?_
                    obtain rfl := Option.some.inj hr75
                    simp only [outOf, thenQ, QL, if_true, ite_true, reduceCtorEq, if_false]
                    rintro rfl
                    simp only [outOf, thenQ, QL, if_true, ite_true, reduceCtorEq, if_false]
                    rintro rfl
                    simp [FinQ, -chunk, -Cell.isSl, -callOp, callOp_eq, c64, c65, c65N, c66, c66N, c68, c68N, c72, c74, c74N, c76, eq_true c79, eq_true c80]
                  · skip
                    rw [if_neg] at hr75
                    rotate_left
                    · simp [c64, c65, c65N, c66, c66N, c68, c68N, c72, c74, c74N, c76, eq_true c79, c80]
                    refine ee_condF (by simp [bV, c64, c65, c65N, c66, c66N, c68, c68N, c72, c74, c74N, c76, eq_true c79, c80]) ?_
                    refine ee_skip ?_
                    simp only [outOf, thenQ, QL, if_true, ite_true, reduceCtorEq, if_false]
                    refine ee_reg rfl (by simp [-chunk, -Cell.isSl, -callOp, callOp_eq, c64, c65, c65N, c66, c66N, c68, c68N, c72, c74, c74N, c76, eq_true c79, c80]; rfl) ?_
                    obtain rfl := Option.some.inj hr75
                    simp only [outOf, thenQ, QL, if_true, ite_true, reduceCtorEq, if_false]
                    simp [und, List.replicate, Nat.add_assoc, c64, c65, c65N, c66, c66N, c68, c68N, c72, c74, c74N, c76, eq_true c79, c80]
                · skip
                  rw [if_neg] at hr75
                  rotate_left
                  · simp [c64, c65, c65N, c66, c66N, c68, c68N, c72, c74, c74N, c76, c79]
                  refine ee_condF (by simp [bV, c64, c65, c65N, c66, c66N, c68, c68N, c72, c74, c74N, c76, c79]) ?_
                  refine ee_skip ?_
                  simp only [outOf, thenQ, QL, if_true, ite_true, reduceCtorEq, if_false]
                  refine ee_reg rfl (by simp [-chunk, -Cell.isSl, -callOp, callOp_eq, c64, c65, c65N, c66, c66N, c68, c68N, c72, c74, c74N, c76, c79]; rfl) ?_
                  obtain rfl := Option.some.inj hr75
                  simp only [outOf, thenQ, QL, if_true, ite_true, reduceCtorEq, if_false]
                  simp [und, List.replicate, Nat.add_assoc, c64, c65, c65N, c66, c66N, c68, c68N, c72, c74, c74N, c76, c79]
              · skip
                rw [if_neg] at hr75
                rotate_left
                · simp [c64, c65, c65N, c66, c66N, c68, c68N, c72, c74, c74N, c76]
                refine ee_seq_condF (by simp [bV, c64, c65, c65N, c66, c66N, c68, c68N, c72, c74, c74N, c76]) ?_
                refine ee_seq_exit ?_
                obtain ⟨r81, q81, rfl⟩ := Option.map_eq_some_iff.1 hr75
                simp only [outOf, thenQ, QL, if_true, ite_true, reduceCtorEq, if_false]
                rintro rfl
                try simp only [outOf, thenQ, QL, if_true, ite_true, reduceCtorEq, if_false]
                unfold Lref09_Check_k4 at q81
                refine ee_reg rfl (by simp [-chunk, -Cell.isSl, -callOp, callOp_eq, c64, c65, c65N, c66, c66N, c68, c68N, c72, c74, c74N, c76]; rfl) ?_
                obtain rfl := Option.some.inj q81
                simp only [outOf, thenQ, QL, if_true, ite_true, reduceCtorEq, if_false]
                simp [und, List.replicate, Nat.add_assoc, c64, c65, c65N, c66, c66N, c68, c68N, c72, c74, c74N, c76]
            · skip
              have c74N := c74
              try simp at c74N
              rw [if_neg] at hr73
              rotate_left
              · simp [c64, c65, c65N, c66, c66N, c68, c68N, c72, c74, c74N]
              refine ee_seq_condF (by simp [bV, c64, c65, c65N, c66, c66N, c68, c68N, c72, c74, c74N]) ?_
              refine ee_seq_exit ?_
              obtain ⟨r82, q82, rfl⟩ := Option.map_eq_some_iff.1 hr73
              simp only [outOf, thenQ, QL, if_true, ite_true, reduceCtorEq, if_false]
              rintro rfl
              try simp only [outOf, thenQ, QL, if_true, ite_true, reduceCtorEq, if_false]
              unfold Lref09_Check_k2 at q82
              refine ee_assoc ?_
              refine ee_seq_reg rfl (by simp [-chunk, -Cell.isSl, -callOp, callOp_eq, c64, c65, c65N, c66, c66N, c68, c68N, c72, c74, c74N]; rfl) ?_
              refine ee_seq_block ?_
              refine ee_loop (kq := ⟨[1, 66, 67, 68], [1], []⟩) (H := fun (s : Int) => match s with | p43 => (⟨(und 1 ++ ([.ptr 1 0 0 0 4] ++ (und 64 ++ ([.one (.slice .no (List.map eapi_Input a0.2.1)), .one (.v (.int .i64 (a0.2.1.length : Int))), .one (.v (.int .i64 p43))] ++ (und 12)))) : List PV), ([(1, ⟨0, 4, [[.v (.int .u32 a0.1), .slice .no (List.map eapi_Input a0.2.1), .slice .no (List.map eapi_Output a0.2.2.1), .v (.int .u32 a0.2.2.2)]], false, false⟩)] : Boxes)⟩ : ASt)) (by kernel_rfl) q82 (by simp [und, List.replicate, c64, c65, c65N, c66, c66N, c68, c68N, c72, c74, c74N]) ?_
              rintro p43 x83r hr83
              simp only [Lref09_Check_s3] at hr83
              unfold b38_4
              simp only [und, List.replicate, List.cons_append, List.nil_append]
              refine ee_seq_reg rfl (by simp [-chunk, -Cell.isSl, -callOp, callOp_eq, c64, c65, c65N, c66, c66N, c68, c68N, c72, c74, c74N]; rfl) ?_
              by_cases c84 : p43 < (a0.2.1.length : Int)
              · skip
                have c84N := c84
                try simp at c84N
                rw [if_pos] at hr83
                rotate_left
                · simp [c64, c65, c65N, c66, c66N, c68, c68N, c72, c74, c74N, c84, c84N]
                refine ee_seq_condT (by simp [bV, c64, c65, c65N, c66, c66N, c68, c68N, c72, c74, c74N, c84, c84N]) ?_
                refine ee_seq_skip ?_
                refine ee_seq_block ?_
                obtain ⟨x85, hx85, hr83⟩ := Option.bind_eq_some_iff.1 hr83
                obtain ⟨hx85a, hx85b⟩ := idx_some hx85
                have hx85c := getE_of hx85b
                refine ee_seq_reg rfl (by simp [-chunk, -Cell.isSl, -callOp, callOp_eq, hx85a, hx85b, hx85c, c64, c65, c65N, c66, c66N, c68, c68N, c72, c74, c74N, c84, c84N]; rfl) ?_
                obtain ⟨y86, hy86, hr83⟩ := Option.bind_eq_some_iff.1 hr83
                have ehy86 := G_Lref09_Null_eq hy86
                try simp only [intsR_nil, intsR_cons, intsR_app, intsR_tk, intsR_dr, intsR_st, intsR_rep, List.map_nil, List.map_cons, List.map_append, List.map_take, List.map_drop, List.map_set, List.map_replicate, List.nil_append, List.cons_append, List.append_assoc, eapi_Input, eapi_Output, eapi_Spendable, eS_I_u8, eapi_Coin] at ehy86
                by_cases c87 : y86 = true
                · skip
                  rw [if_pos] at hr83
                  rotate_left
                  · simp [c64, c65, c65N, c66, c66N, c68, c68N, c72, c74, c74N, c84, c84N, c87]
                  obtain ⟨z88, hz88, hr83⟩ := Option.bind_eq_some_iff.1 hr83
                  obtain ⟨y89, hy89, hz88⟩ := Option.bind_eq_some_iff.1 hz88
                  have ehy89 := G_Lref09_Coinbase_eq hy89
                  try simp only [intsR_nil, intsR_cons, intsR_app, intsR_tk, intsR_dr, intsR_st, intsR_rep, List.map_nil, List.map_cons, List.map_append, List.map_take, List.map_drop, List.map_set, List.map_replicate, List.nil_append, List.cons_append, List.append_assoc, eapi_Input, eapi_Output, eapi_Spendable, eS_I_u8, eapi_Coin] at ehy89
                  obtain rfl := Option.some.inj hz88
                  refine ee_seq_reg rfl (by simp [-chunk, -Cell.isSl, -callOp, callOp_eq, hT53, ehy86, hT39, ehy89, c64, c65, c65N, c66, c66N, c68, c68N, c72, c74, c74N, c84, c84N, c87]; rfl) ?_
                  by_cases c90 : y89 = true
                  · skip
                    rw [if_neg] at hr83
                    rotate_left
                    · simp [c64, c65, c65N, c66, c66N, c68, c68N, c72, c74, c74N, c84, c84N, c87, c90]
                    refine ee_condF (by simp [bV, c64, c65, c65N, c66, c66N, c68, c68N, c72, c74, c74N, c84, c84N, c87, c90]) ?_
                    refine ee_skip ?_
                    simp only [outOf, thenQ, QL, if_true, ite_true, reduceCtorEq, if_false]
                    refine ee_reg rfl (by simp [-chunk, -Cell.isSl, -callOp, callOp_eq, c64, c65, c65N, c66, c66N, c68, c68N, c72, c74, c74N, c84, c84N, c87, c90]; rfl) ?_
                    obtain rfl := Option.some.inj hr83
                    simp only [outOf, thenQ, QL, if_true, ite_true, reduceCtorEq, if_false]
                    simp [und, List.replicate, Nat.add_assoc, c64, c65, c65N, c66, c66N, c68, c68N, c72, c74, c74N, c84, c84N, c87, c90]
                  · skip
                    rw [if_pos] at hr83
                    rotate_left
                    · simp [c64, c65, c65N, c66, c66N, c68, c68N, c72, c74, c74N, c84, c84N, c87, c90]
                    refine ee_condT (by simp [bV, c64, c65, c65N, c66, c66N, c68, c68N, c72, c74, c74N, c84, c84N, c87, c90]) ?_
                    refine ee_seq_reg rfl (by simp [-chunk, -Cell.isSl, -callOp, callOp_eq, c64, c65, c65N, c66, c66N, c68, c68N, c72, c74, c74N, c84, c84N, c87, c90]; rfl) ?_
                    refine ee_ret ?_
                    obtain rfl := Option.some.inj hr83
                    simp only [outOf, thenQ, QL, if_true, ite_true, reduceCtorEq, if_false]
                    rintro rfl
                    simp [FinQ, -chunk, -Cell.isSl, -callOp, callOp_eq, c64, c65, c65N, c66, c66N, c68, c68N, c72, c74, c74N, c84, c84N, c87, c90]
                · skip
                  rw [if_neg] at hr83
                  rotate_left
                  · simp [c64, c65, c65N, c66, c66N, c68, c68N, c72, c74, c74N, c84, c84N, c87]
                  obtain ⟨z91, hz91, hr83⟩ := Option.bind_eq_some_iff.1 hr83
                  obtain rfl := Option.some.inj hz91
                  refine ee_seq_reg rfl (by simp [-chunk, -Cell.isSl, -callOp, callOp_eq, hT53, ehy86, c64, c65, c65N, c66, c66N, c68, c68N, c72, c74, c74N, c84, c84N, c87]; rfl) ?_
                  rw [if_neg] at hr83
                  rotate_left
                  · simp [c64, c65, c65N, c66, c66N, c68, c68N, c72, c74, c74N, c84, c84N, c87]
                  refine ee_condF (by simp [bV, c64, c65, c65N, c66, c66N, c68, c68N, c72, c74, c74N, c84, c84N, c87]) ?_
                  refine ee_skip ?_
                  simp only [outOf, thenQ, QL, if_true, ite_true, reduceCtorEq, if_false]
                  refine ee_reg rfl (by simp [-chunk, -Cell.isSl, -callOp, callOp_eq, c64, c65, c65N, c66, c66N, c68, c68N, c72, c74, c74N, c84, c84N, c87]; rfl) ?_
                  obtain rfl := Option.some.inj hr83
                  simp only [outOf, thenQ, QL, if_true, ite_true, reduceCtorEq, if_false]
                  simp [und, List.replicate, Nat.add_assoc, c64, c65, c65N, c66, c66N, c68, c68N, c72, c74, c74N, c84, c84N, c87]
              · skip
                have c84N := c84
                try simp at c84N
                rw [if_neg] at hr83
                rotate_left
                · simp [c64, c65, c65N, c66, c66N, c68, c68N, c72, c74, c74N, c84, c84N]
                refine ee_seq_condF (by simp [bV, c64, c65, c65N, c66, c66N, c68, c68N, c72, c74, c74N, c84, c84N]) ?_
                refine ee_seq_exit ?_
                obtain ⟨r92, q92, rfl⟩ := Option.map_eq_some_iff.1 hr83
                simp only [outOf, thenQ, QL, if_true, ite_true, reduceCtorEq, if_false]
                rintro rfl
                try simp only [outOf, thenQ, QL, if_true, ite_true, reduceCtorEq, if_false]
                unfold Lref09_Check_k3 at q92
                refine ee_seq_reg rfl (by simp [-chunk, -Cell.isSl, -callOp, callOp_eq, c64, c65, c65N, c66, c66N, c68, c68N, c72, c74, c74N, c84, c84N]; rfl) ?_
                refine ee_ret ?_
                obtain rfl := Option.some.inj q92
                simp [FinQ, -chunk, -Cell.isSl, -callOp, callOp_eq, c64, c65, c65N, c66, c66N, c68, c68N, c72, c74, c74N, c84, c84N]
  · skip
    rw [if_pos] at hr
    rotate_left
    · simp [c64]
    refine ee_seq_condT (by simp [bV, c64]) ?_
    refine ee_assoc ?_
    refine ee_seq_reg rfl (by simp [-chunk, -Cell.isSl, -callOp, callOp_eq, c64]; rfl) ?_
    refine ee_seq_ret ?_
    obtain rfl := Option.some.inj hr
    simp [FinQ, -chunk, -Cell.isSl, -callOp, callOp_eq, c64]
end Go.Proofs.Ytanhccemhpmnhaa
