import Derived.Test.YtmjbklblgpnagaaLfK
import Derived.Test.YtmjbklblgpnagaaCode
import Derived.Test.YtmjbklblgpnagaaBl
namespace Go.Proofs.Ytmjbklblgpnagaa
open Go.RowKit
open Go.Av
open Go.Lc
set_option maxRecDepth 100000
set_option linter.unusedSimpArgs false
set_option linter.unusedVariables false
set_option maxHeartbeats 4000000
variable {G : Glob}
def kp10 : Keep := fun i => if i = 10 then ⟨[1, 2, 5, 11, 12, 13, 50, 51], [5, 13], []⟩ else if i = 13 then ⟨[1, 2, 5, 11, 12, 13, 50, 51, 67, 68, 69], [5, 13, 67], []⟩ else ⟨[], [], []⟩
theorem w10 {T : Tab} (hO : T.own = fun _ => []) (hT12 : T 12 = some G12) (hT16 : T 16 = some G16) (hT17 : T 17 = some G17) (hT24 : T 24 = some G24) (a0 : (Arr 2)) (a1 : (List (List Int))) (a2 : (List (List Int))) (a3 : Int) (a4 : Int) (x : Bool) (hr : Llaw19_GolombMembers a0 a1 a2 a3 a4 = some x) : ∃ kp fl n, execFn tt T G kp fl n Try.f10 (E10 (a0, a1, a2, a3, a4)) = some (R10 (a0, a1, a2, a3, a4) x) := by
 simp only [E10, R10]
 refine fnE (kp := kp10) (w := false) body10 (by simp) ?_
 unfold c10
 rw [Try.ntmps10]
 unfold Llaw19_GolombMembers at hr
 refine ee_seq_reg rfl (by simp []; rfl) ?_
 refine ee_assoc ?_
 obtain ⟨y63, hy63, hr⟩ := bs hr
 have ehy63 := G12_eq hy63
 simp only [E12, R12, nf, nfs] at ehy63
 refine ee_seq_reg rfl (by simp [hO, hT12, ehy63]; rfl) ?_
 by_cases c64 : y63 = true
 ·skip
  rw [if_neg (not_not_intro c64)] at hr
  refine ee_seq_condF (by simp [bV, c64]) ?_
  refine ee_seq_skip ?_
  refine ee_assoc ?_
  obtain ⟨y65, hy65, hr⟩ := bs hr
  have ehy65 := G16_eq hy65
  simp only [E16, R16, nf, nfs] at ehy65
  by_cases c66 : y65 = true
  ·skip
   rw [if_neg] at hr
   rotate_left
   ·simp [c64, c66]
   obtain ⟨z67, hz67, hr⟩ := bs hr
   obtain ⟨y68, hy68, hz67⟩ := bs hz67
   have ehy68 := G16_eq hy68
   simp only [E16, R16, nf, nfs] at ehy68
   obtain rfl := Option.some.inj hz67
   refine ee_seq_reg rfl (by simp [hO, hT16, ehy65, ehy68, c64, c66]; rfl) ?_
   by_cases c69 : y68 = true
   ·skip
    rw [if_neg] at hr
    rotate_left
    ·simp [c64, c66, c69]
    refine ee_seq_condF (by simp [bV, c64, c66, c69]) ?_
    refine ee_seq_skip ?_
    refine ee_seq_reg rfl (by simp [c64, c66, c69]; rfl) ?_
    obtain ⟨y70, hy70, hr⟩ := bs hr
    have ehy70 := G17_eq hy70
    simp only [E17, R17, nf, nfs] at ehy70
    refine ee_seq_reg rfl (by simp [hO, hT17, ehy70, c64, c66, c69]; rfl) ?_
    refine ee_assoc ?_
    refine ee_seq_reg rfl (by simp [c64, c66, c69]; rfl) ?_
    by_cases c71 : y70.2 = 0
    ·skip
     rw [if_neg (not_not_intro c71)] at hr
     refine ee_seq_condF (by simp [bV, c64, c66, c69, eq_true c71]) ?_
     refine ee_seq_skip ?_
     refine ee_assoc ?_
     refine ee_seq_reg rfl (by simp [c64, c66, c69, eq_true c71]; rfl) ?_
     refine ee_seq_block ?_
     refine ee_loop (kq := ⟨[1, 2, 5, 11, 12, 13, 50, 51], [5, 13], []⟩) (H := fun (s : Int) => match s with | p33 => (⟨(und 1 ++ ([.one (.slice .no (List.map eS_I_u8 a1)), .one (.slice .no (List.map eS_I_u8 a2))] ++ (und 2 ++ ([.ptr 5 0 0 0 2] ++ (und 5 ++ ([.one (.v (.int .i64 (IntKind.i64.wrap (1 + (IntKind.i64.wrap ((a3).tmod 20)))))), .one (.v (.int .u64 (IntKind.u64.wrap (1 + (IntKind.u64.wrap (a4)))))), .ptr 13 0 0 0 2] ++ (und 36 ++ ([.one (.v (.int .i64 (a1.length : Int))), .one (.v (.int .i64 p33))] ++ (und 43)))))))) : List PV), ([(5, ⟨0, 2, [arC .u64 a0], false, false⟩), (13, ⟨0, 2, [[.v (.int .i64 y70.1.1), .slice .no (intsR .u8 y70.1.2)]], false, false⟩)] : Boxes)⟩ : ASt)) (by kernel_rfl) hr (by simp [und, List.replicate, c64, c66, c69, eq_true c71]) ?_
     rintro p33 x98r hr98
     simp only [Llaw19_GolombMembers_s1] at hr98
     unfold b10_1
     simp only [und, List.replicate, List.cons_append, List.nil_append]
     refine ee_seq_reg rfl (by simp [c64, c66, c69, eq_true c71]; rfl) ?_
     by_cases c99 : p33 < (a1.length : Int)
     ·skip
      have c99N := c99
      try simp at c99N
      first | have c99M : (_ = _) = True := eq_true c99N | have c99M := c99N
      rw [if_pos] at hr98
      rotate_left
      ·simp [c64, c66, c69, eq_true c71, c99, c99M]
      refine ee_seq_condT (by simp [bV, c64, c66, c69, eq_true c71, c99, c99M]) ?_
      refine ee_seq_skip ?_
      refine ee_seq_block ?_
      refine ee_seq_reg rfl (by simp [c64, c66, c69, eq_true c71, c99, c99M]; rfl) ?_
      obtain ⟨_, u100, hr98⟩ := bs hr98
      obtain ⟨u100_0, u100_1, u100_2⟩ := chk_some u100
      have sf101 : (p33).toNat ≤ (IntKind.i64.wrap (p33 + 1)).toNat := by omega
      have sf102 : (IntKind.i64.wrap (p33 + 1)).toNat ≤ a1.length := by omega
      have sf103 : 0 ≤ IntKind.i64.wrap (p33 + 1) := by omega
      obtain ⟨_, u104, hr98⟩ := bs hr98
      have u104_0 := chk_some u104
      have n1_u104_0 : (a2.length) * 24 ≤ 140737488355328 := by omega
      have n2_u104_0 : a2.length ≤ 9223372036854775807 := by omega
      obtain ⟨x105, hx105, hr98⟩ := bs hr98
      obtain ⟨hx105a, hx105b⟩ := idx_some hx105
      have hx105c := getE_of hx105b
      obtain ⟨_, u106, hr98⟩ := bs hr98
      have u106_0 := chk_some u106
      have n1_u106_0 : (a2.length + 1) * 24 ≤ 140737488355328 := by omega
      have n2_u106_0 : a2.length + 1 ≤ 9223372036854775807 := by omega
      refine ee_seq_draw rfl (by simp [u100_0, u100_1, u100_2, sf101, sf102, sf103, n1_u104_0, n2_u104_0, hx105a, hx105b, hx105c, n1_u106_0, n2_u106_0, List.range, List.range.loop, c64, c66, c69, eq_true c71, c99, c99M]; first | exact ⟨rfl, rfl⟩ | rfl) (by kernel_rfl) ?_
      refine ee_block ?_
      refine ee_loop (kq := ⟨[1, 2, 5, 11, 12, 13, 50, 51, 67, 68, 69], [5, 13, 67], []⟩) (H := fun (s : Int) => match s with | p56 => (⟨(und 1 ++ ([.one (.slice .no (List.map eS_I_u8 a1)), .one (.slice .no (List.map eS_I_u8 a2))] ++ (und 2 ++ ([.ptr 5 0 0 0 2] ++ (und 5 ++ ([.one (.v (.int .i64 (IntKind.i64.wrap (1 + (IntKind.i64.wrap ((a3).tmod 20)))))), .one (.v (.int .u64 (IntKind.u64.wrap (1 + (IntKind.u64.wrap (a4)))))), .ptr 13 0 0 0 2] ++ (und 36 ++ ([.one (.v (.int .i64 (a1.length : Int))), .one (.v (.int .i64 p33))] ++ (und 15 ++ ([.one (.ms 67 0 0 (2) 1), .one (.v (.int .i64 (2 : Int))), .one (.v (.int .i64 p56))] ++ (und 25)))))))))) : List PV), ([(5, ⟨0, 2, [arC .u64 a0], false, false⟩), (13, ⟨0, 2, [[.v (.int .i64 y70.1.1), .slice .no (intsR .u8 y70.1.2)]], false, false⟩), (67, ⟨0, 1, List.map eS_S_I_u8 [((a1).take ((IntKind.i64.wrap (p33 + 1)).toNat)).drop ((p33).toNat), a2 ++ [x105]], false, true⟩)] : Boxes)⟩ : ASt)) (by kernel_rfl) hr98 (by simp [und, List.replicate, sf101, sf102, sf103, c64, c66, c69, eq_true c71, c99, c99M]) ?_
      rintro p56 x115r hr115
      simp only [Llaw19_GolombMembers_s2] at hr115
      unfold b10_2
      simp only [und, List.replicate, List.cons_append, List.nil_append]
      refine ee_seq_reg rfl (by simp [c64, c66, c69, eq_true c71, c99, c99M]; rfl) ?_
      by_cases c116 : p56 < (2 : Int)
      ·skip
       rw [if_pos] at hr115
       rotate_left
       ·simp [c64, c66, c69, eq_true c71, c99, c99M, c116]
       refine ee_seq_condT (by simp [bV, c64, c66, c69, eq_true c71, c99, c99M, c116]) ?_
       refine ee_seq_skip ?_
       refine ee_seq_block ?_
       obtain ⟨j117, hj117, hr115⟩ := bs hr115
       obtain ⟨j117a, j117b, j117c⟩ := inA_some hj117
       have j117d : j117 ≤ 1 := by omega
       obtain ⟨x118, hx118, hr115⟩ := bs hr115
       have ghx118 := getE_of hx118
       have mhx118 : (List.map eS_S_I_u8 ([((a1).take ((IntKind.i64.wrap (p33 + 1)).toNat)).drop ((p33).toNat), a2 ++ [x105]]))[j117]? = some (eS_S_I_u8 x118) := by rw [List.getElem?_map, hx118]; rfl
       simp only [List.map_cons, List.map_nil, List.map_take, List.map_drop, intsR_tk, intsR_dr, arC_lit, ints_cons, ints_nil, eS_S_I_u8, List.map_append, nfs] at mhx118
       have mghx118 := getE_of mhx118
       refine ee_seq_reg rfl (by simp [j117a, j117b, j117c, j117d, hx118, ghx118, mhx118, mghx118, c64, c66, c69, eq_true c71, c99, c99M, c116]; rfl) ?_
       obtain ⟨y119, hy119, hr115⟩ := bs hr115
       have ehy119 := G24_eq hy119
       simp only [E24, R24, nf, nfs] at ehy119
       refine ee_seq_reg rfl (by simp [hO, hT24, ehy119, c64, c66, c69, eq_true c71, c99, c99M, c116]; rfl) ?_
       by_cases c120 : y119.1 = true
       ·skip
        refine ee_seq_reg rfl (by simp [c64, c66, c69, eq_true c71, c99, c99M, c116, c120]; rfl) ?_
        by_cases c121 : y119.2 = 0
        ·skip
         rw [if_neg] at hr115
         rotate_left
         ·simp [c64, c66, c69, eq_true c71, c99, c99M, c116, c120, eq_true c121]
         refine ee_condF (by simp [bV, c64, c66, c69, eq_true c71, c99, c99M, c116, c120, eq_true c121]) ?_
         refine ee_skip ?_
         simp only [pq, reduceCtorEq]
         refine ee_reg rfl (by simp [c64, c66, c69, eq_true c71, c99, c99M, c116, c120, eq_true c121]; rfl) ?_
         obtain rfl := Option.some.inj hr115
         simp only [pq, reduceCtorEq]
         simp [und, List.replicate, Nat.add_assoc, c64, c66, c69, eq_true c71, c99, c99M, c116, c120, eq_true c121]
        ·skip
         rw [if_pos] at hr115
         rotate_left
         ·simp [c64, c66, c69, eq_true c71, c99, c99M, c116, c120, c121]
         refine ee_condT (by simp [bV, c64, c66, c69, eq_true c71, c99, c99M, c116, c120, c121]) ?_
         refine ee_seq_reg rfl (by simp [c64, c66, c69, eq_true c71, c99, c99M, c116, c120, c121]; rfl) ?_
         refine ee_ret ?_
         obtain rfl := Option.some.inj hr115
         simp only [pq, reduceCtorEq]
         rintro rfl
         simp only [pq, reduceCtorEq]
         rintro rfl
         simp [FinQ, c64, c66, c69, eq_true c71, c99, c99M, c116, c120, c121, c99N]
       ·skip
        refine ee_seq_reg rfl (by simp [c64, c66, c69, eq_true c71, c99, c99M, c116, c120]; rfl) ?_
        rw [if_pos] at hr115
        rotate_left
        ·simp [c64, c66, c69, eq_true c71, c99, c99M, c116, c120]
        refine ee_condT (by simp [bV, c64, c66, c69, eq_true c71, c99, c99M, c116, c120]) ?_
        refine ee_seq_reg rfl (by simp [c64, c66, c69, eq_true c71, c99, c99M, c116, c120]; rfl) ?_
        refine ee_ret ?_
        obtain rfl := Option.some.inj hr115
        simp only [pq, reduceCtorEq]
        rintro rfl
        simp only [pq, reduceCtorEq]
        rintro rfl
        simp [FinQ, c64, c66, c69, eq_true c71, c99, c99M, c116, c120, c99N]
      ·skip
       rw [if_neg] at hr115
       rotate_left
       ·simp [c64, c66, c69, eq_true c71, c99, c99M, c116]
       refine ee_seq_condF (by simp [bV, c64, c66, c69, eq_true c71, c99, c99M, c116]) ?_
       refine ee_seq_exit ?_
       obtain ⟨r122, q122, rfl⟩ := ms hr115
       simp only [pq, reduceCtorEq]
       rintro rfl
       try simp only [pq, reduceCtorEq]
       unfold Llaw19_GolombMembers_k2 at q122
       refine ee_reg rfl (by simp [c64, c66, c69, eq_true c71, c99, c99M, c116]; rfl) ?_
       obtain rfl := Option.some.inj q122
       simp only [pq, reduceCtorEq]
       simp [und, List.replicate, Nat.add_assoc, c64, c66, c69, eq_true c71, c99, c99M, c116]
     ·skip
      have c99N := c99
      try simp at c99N
      first | have c99M : (_ = _) = True := eq_true c99N | have c99M := c99N
      rw [if_neg] at hr98
      rotate_left
      ·simp [c64, c66, c69, eq_true c71, c99, c99M]
      refine ee_seq_condF (by simp [bV, c64, c66, c69, eq_true c71, c99, c99M]) ?_
      refine ee_seq_exit ?_
      obtain ⟨r123, q123, rfl⟩ := ms hr98
      simp only [pq, reduceCtorEq]
      rintro rfl
      try simp only [pq, reduceCtorEq]
      unfold Llaw19_GolombMembers_k1 at q123
      refine ee_seq_reg rfl (by simp [c64, c66, c69, eq_true c71, c99, c99M]; rfl) ?_
      refine ee_ret ?_
      obtain rfl := Option.some.inj q123
      simp [FinQ, c64, c66, c69, eq_true c71, c99, c99M, c99N]
    ·skip
     rw [if_pos c71] at hr
     refine ee_seq_condT (by simp [bV, c64, c66, c69, c71]) ?_
     refine ee_assoc ?_
     refine ee_seq_reg rfl (by simp [c64, c66, c69, c71]; rfl) ?_
     refine ee_seq_ret ?_
     obtain rfl := Option.some.inj hr
     simp [FinQ, c64, c66, c69, c71]
   ·skip
    rw [if_pos] at hr
    rotate_left
    ·simp [c64, c66, c69]
    refine ee_seq_condT (by simp [bV, c64, c66, c69]) ?_
    refine ee_assoc ?_
    refine ee_seq_reg rfl (by simp [c64, c66, c69]; rfl) ?_
    refine ee_seq_ret ?_
    obtain rfl := Option.some.inj hr
    simp [FinQ, c64, c66, c69]
  ·skip
   rw [if_pos] at hr
   rotate_left
   ·simp [c64, c66]
   obtain ⟨z124, hz124, hr⟩ := bs hr
   obtain rfl := Option.some.inj hz124
   refine ee_seq_reg rfl (by simp [hO, hT16, ehy65, c64, c66]; rfl) ?_
   rw [if_pos] at hr
   rotate_left
   ·simp [c64, c66]
   refine ee_seq_condT (by simp [bV, c64, c66]) ?_
   refine ee_assoc ?_
   refine ee_seq_reg rfl (by simp [c64, c66]; rfl) ?_
   refine ee_seq_ret ?_
   obtain rfl := Option.some.inj hr
   simp [FinQ, c64, c66]
 ·skip
  rw [if_pos c64] at hr
  refine ee_seq_condT (by simp [bV, c64]) ?_
  refine ee_assoc ?_
  refine ee_seq_reg rfl (by simp [c64]; rfl) ?_
  refine ee_seq_ret ?_
  obtain rfl := Option.some.inj hr
  simp [FinQ, c64]
end Go.Proofs.Ytmjbklblgpnagaa
