import Derived.Test.YtmjbklblgpnagaaLfK
import Derived.Test.YtmjbklblgpnagaaCode
import Derived.Test.YtmjbklblgpnagaaBl
namespace Go.Proofs.Ytmjbklblgpnagaa
open Go.RowKit
open Go.Av
open Go.Lc
set_option maxRecDepth 100000
set_option linter.unusedSimpArgs false
set_option linter.unusedVariables false
set_option maxHeartbeats 4000000
variable {G : Glob}
def kp23 : Keep := fun i => if i = 8 then ⟨[1, 2, 6, 7, 8, 9], [2, 6, 71], [(7, none, 71, 1)]⟩ else ⟨[], [], []⟩
theorem w23 {T : Tab} (hO : T.own = fun _ => []) (hT37 : T 37 = some G37) (hT38 : T 38 = some G38) (a0 : Tapi_Filter) (a1 : Int) (x : (List Int) × Int) (hr : Lref19_Decode a0 a1 = some x) : ∃ kp fl n, execFn tt T G kp fl n Try.f23 (E23 (a0, a1)) = some (R23 (a0, a1) x) := by
 simp only [E23, R23]
 refine fnE (kp := kp23) (w := false) body23 (by simp) ?_
 unfold c23
 rw [Try.ntmps23]
 unfold Lref19_Decode at hr
 refine ee_seq_reg rfl (by simp []; rfl) ?_
 refine ee_assoc ?_
 by_cases c15 : 4096 < a0.1
 ·skip
  refine ee_seq_reg rfl (by simp [c15]; rfl) ?_
  rw [if_pos] at hr
  rotate_left
  ·simp [c15]
  refine ee_seq_condT (by simp [bV, c15]) ?_
  refine ee_assoc ?_
  refine ee_seq_reg rfl (by simp [c15]; rfl) ?_
  refine ee_seq_ret ?_
  obtain rfl := Option.some.inj hr
  simp [FinQ, c15]
 ·skip
  refine ee_seq_reg rfl (by simp [c15]; rfl) ?_
  by_cases c16 : 200000 < (a0.2.length : Int)
  ·skip
   have c16N := c16
   try simp at c16N
   first | have c16M : (_ = _) = True := eq_true c16N | have c16M := c16N
   rw [if_pos] at hr
   rotate_left
   ·simp [c15, c16, c16M]
   refine ee_seq_condT (by simp [bV, c15, c16, c16M]) ?_
   refine ee_assoc ?_
   refine ee_seq_reg rfl (by simp [c15, c16, c16M]; rfl) ?_
   refine ee_seq_ret ?_
   obtain rfl := Option.some.inj hr
   simp [FinQ, c15, c16, c16M, c16N]
  ·skip
   have c16N := c16
   try simp at c16N
   first | have c16M : (_ = _) = True := eq_true c16N | have c16M := c16N
   rw [if_neg] at hr
   rotate_left
   ·simp [c15, c16, c16M]
   refine ee_seq_condF (by simp [bV, c15, c16, c16M]) ?_
   refine ee_seq_skip ?_
   refine ee_assoc ?_
   by_cases c17 : a0.1 < 0
   ·skip
    refine ee_seq_reg rfl (by simp [c15, c16, c16M, c17]; rfl) ?_
    rw [if_pos] at hr
    rotate_left
    ·simp [c15, c16, c16M, c17]
    refine ee_seq_condT (by simp [bV, c15, c16, c16M, c17]) ?_
    refine ee_assoc ?_
    refine ee_seq_reg rfl (by simp [c15, c16, c16M, c17]; rfl) ?_
    refine ee_seq_ret ?_
    obtain rfl := Option.some.inj hr
    simp [FinQ, c15, c16, c16M, c17, c16N]
   ·skip
    by_cases c18 : a1 < 0
    ·skip
     refine ee_seq_reg rfl (by simp [c15, c16, c16M, c17, c18]; rfl) ?_
     rw [if_pos] at hr
     rotate_left
     ·simp [c15, c16, c16M, c17, c18]
     refine ee_seq_condT (by simp [bV, c15, c16, c16M, c17, c18]) ?_
     refine ee_assoc ?_
     refine ee_seq_reg rfl (by simp [c15, c16, c16M, c17, c18]; rfl) ?_
     refine ee_seq_ret ?_
     obtain rfl := Option.some.inj hr
     simp [FinQ, c15, c16, c16M, c17, c18, c16N]
    ·skip
     refine ee_seq_reg rfl (by simp [c15, c16, c16M, c17, c18]; rfl) ?_
     by_cases c19 : 32 < a1
     ·skip
      rw [if_pos] at hr
      rotate_left
      ·simp [c15, c16, c16M, c17, c18, c19]
      refine ee_seq_condT (by simp [bV, c15, c16, c16M, c17, c18, c19]) ?_
      refine ee_assoc ?_
      refine ee_seq_reg rfl (by simp [c15, c16, c16M, c17, c18, c19]; rfl) ?_
      refine ee_seq_ret ?_
      obtain rfl := Option.some.inj hr
      simp [FinQ, c15, c16, c16M, c17, c18, c19, c16N]
     ·skip
      rw [if_neg] at hr
      rotate_left
      ·simp [c15, c16, c16M, c17, c18, c19]
      refine ee_seq_condF (by simp [bV, c15, c16, c16M, c17, c18, c19]) ?_
      refine ee_seq_skip ?_
      refine ee_seq_reg rfl (by simp [c15, c16, c16M, c17, c18, c19]; rfl) ?_
      refine ee_seq_reg rfl (by simp [c15, c16, c16M, c17, c18, c19]; rfl) ?_
      refine ee_seq_reg rfl (by simp [c15, c16, c16M, c17, c18, c19]; rfl) ?_
      refine ee_seq_block ?_
      refine ee_loop (kq := ⟨[1, 2, 6, 7, 8, 9], [2, 6, 71], [(7, none, 71, 1)]⟩) (H := fun (s : Int × Int × (List Int)) => match s with | (p7, p8, p9) => (⟨(und 1 ++ ([.one (.v (.int .i64 a1)), .ptr 2 0 0 0 2] ++ (und 3 ++ ([.ptr 6 0 0 0 2, .one (.ms 71 0 0 (p9.length) 1), .one (.v (.int .i64 p7)), .one (.v (.int .u64 p8))] ++ (und 81)))) : List PV), ([(2, ⟨0, 2, [[.v (.int .i64 a0.1), .slice .no (intsR .u8 a0.2)]], false, false⟩), (6, ⟨0, 2, [[.slice .no (intsR .u8 a0.2), .v (.int .i64 (IntKind.i64.wrap (8 * (a0.2.length : Int))))]], false, false⟩), (71, ⟨0, 1, intsR .u64 p9, false, true⟩)] : Boxes)⟩ : ASt)) (by kernel_rfl) hr (by simp [und, List.replicate, c15, c16, c16M, c17, c18, c19]) ?_
      rintro ⟨p7, p8, p9⟩ x27r hr27
      simp only [Lref19_Decode_s1] at hr27
      unfold b23_1
      simp only [und, List.replicate, List.cons_append, List.nil_append]
      refine ee_assoc ?_
      refine ee_seq_reg rfl (by simp [c15, c16, c16M, c17, c18, c19]; rfl) ?_
      by_cases c28 : (p9.length : Int) < a0.1
      ·skip
       have c28N := c28
       try simp at c28N
       first | have c28M : (_ = _) = True := eq_true c28N | have c28M := c28N
       rw [if_pos] at hr27
       rotate_left
       ·simp [c15, c16, c16M, c17, c18, c19, c28, c28M]
       refine ee_seq_condT (by simp [bV, c15, c16, c16M, c17, c18, c19, c28, c28M]) ?_
       refine ee_seq_skip ?_
       refine ee_block ?_
       obtain ⟨y29, hy29, hr27⟩ := bs hr27
       have ehy29 := G37_eq hy29
       simp only [E37, R37, nf, nfs] at ehy29
       refine ee_seq_reg rfl (by simp [hO, hT37, ehy29, c15, c16, c16M, c17, c18, c19, c28, c28M]; rfl) ?_
       refine ee_assoc ?_
       refine ee_seq_reg rfl (by simp [c15, c16, c16M, c17, c18, c19, c28, c28M]; rfl) ?_
       by_cases c30 : y29.2.2 = 0
       ·skip
        rw [if_neg (not_not_intro c30)] at hr27
        refine ee_seq_condF (by simp [bV, c15, c16, c16M, c17, c18, c19, c28, c28M, eq_true c30]) ?_
        refine ee_seq_skip ?_
        refine ee_assoc ?_
        refine ee_seq_reg rfl (by simp [c15, c16, c16M, c17, c18, c19, c28, c28M, eq_true c30]; rfl) ?_
        by_cases c31 : IntKind.u64.wrap (p8 + y29.1) < p8
        ·skip
         rw [if_pos] at hr27
         rotate_left
         ·simp [c15, c16, c16M, c17, c18, c19, c28, c28M, eq_true c30, c31]
         refine ee_seq_condT (by simp [bV, c15, c16, c16M, c17, c18, c19, c28, c28M, eq_true c30, c31]) ?_
         refine ee_assoc ?_
         refine ee_seq_reg rfl (by simp [c15, c16, c16M, c17, c18, c19, c28, c28M, eq_true c30, c31]; rfl) ?_
         refine ee_seq_ret ?_
         obtain rfl := Option.some.inj hr27
         simp only [pq, reduceCtorEq]
         rintro rfl
         simp [FinQ, c15, c16, c16M, c17, c18, c19, c28, c28M, eq_true c30, c31, c16N, c28N]
        ·skip
         rw [if_neg] at hr27
         rotate_left
         ·simp [c15, c16, c16M, c17, c18, c19, c28, c28M, eq_true c30, c31]
         refine ee_seq_condF (by simp [bV, c15, c16, c16M, c17, c18, c19, c28, c28M, eq_true c30, c31]) ?_
         refine ee_seq_skip ?_
         refine ee_seq_reg rfl (by simp [c15, c16, c16M, c17, c18, c19, c28, c28M, eq_true c30, c31]; rfl) ?_
         obtain ⟨_, u32, hr27⟩ := bs hr27
         have u32_0 := chk_some u32
         have n1_u32_0 : (p9.length + 1) * 8 ≤ 140737488355328 := by omega
         have n2_u32_0 : p9.length + 1 ≤ 9223372036854775807 := by omega
         refine ee_reg rfl (by simp [n1_u32_0, n2_u32_0, c15, c16, c16M, c17, c18, c19, c28, c28M, eq_true c30, c31]; rfl) ?_
         obtain rfl := Option.some.inj hr27
         simp only [pq, reduceCtorEq]
         simp [und, List.replicate, Nat.add_assoc, n1_u32_0, n2_u32_0, c15, c16, c16M, c17, c18, c19, c28, c28M, eq_true c30, c31]
       ·skip
        rw [if_pos c30] at hr27
        refine ee_seq_condT (by simp [bV, c15, c16, c16M, c17, c18, c19, c28, c28M, c30]) ?_
        refine ee_assoc ?_
        refine ee_seq_reg rfl (by simp [c15, c16, c16M, c17, c18, c19, c28, c28M, c30]; rfl) ?_
        refine ee_seq_ret ?_
        obtain rfl := Option.some.inj hr27
        simp only [pq, reduceCtorEq]
        rintro rfl
        simp [FinQ, c15, c16, c16M, c17, c18, c19, c28, c28M, c30, c16N, c28N]
      ·skip
       have c28N := c28
       try simp at c28N
       first | have c28M : (_ = _) = True := eq_true c28N | have c28M := c28N
       rw [if_neg] at hr27
       rotate_left
       ·simp [c15, c16, c16M, c17, c18, c19, c28, c28M]
       refine ee_seq_condF (by simp [bV, c15, c16, c16M, c17, c18, c19, c28, c28M]) ?_
       refine ee_seq_exit ?_
       obtain ⟨r33, q33, rfl⟩ := ms hr27
       simp only [pq, reduceCtorEq]
       rintro rfl
       try simp only [pq, reduceCtorEq]
       unfold Lref19_Decode_k1 at q33
       refine ee_assoc ?_
       refine ee_seq_reg rfl (by simp [c15, c16, c16M, c17, c18, c19, c28, c28M]; rfl) ?_
       by_cases c34 : 8 ≤ IntKind.i64.wrap ((IntKind.i64.wrap (8 * (a0.2.length : Int))) - p7)
       ·skip
        have c34N := c34
        try simp at c34N
        first | have c34M : (_ = _) = True := eq_true c34N | have c34M := c34N
        rw [if_pos c34] at q33
        refine ee_seq_condT (by simp [bV, c15, c16, c16M, c17, c18, c19, c28, c28M, c34, c34M]) ?_
        refine ee_assoc ?_
        refine ee_seq_reg rfl (by simp [c15, c16, c16M, c17, c18, c19, c28, c28M, c34, c34M]; rfl) ?_
        refine ee_seq_ret ?_
        obtain rfl := Option.some.inj q33
        simp [FinQ, c15, c16, c16M, c17, c18, c19, c28, c28M, c34, c34M, c16N, c28N, c34N]
       ·skip
        have c34N := c34
        try simp at c34N
        first | have c34M : (_ = _) = True := eq_true c34N | have c34M := c34N
        rw [if_neg c34] at q33
        refine ee_seq_condF (by simp [bV, c15, c16, c16M, c17, c18, c19, c28, c28M, c34, c34M]) ?_
        refine ee_seq_skip ?_
        refine ee_assoc ?_
        obtain ⟨y35, hy35, q33⟩ := bs q33
        have ehy35 := G38_eq hy35
        simp only [E38, R38, nf, nfs] at ehy35
        refine ee_seq_reg rfl (by simp [hO, hT38, ehy35, c15, c16, c16M, c17, c18, c19, c28, c28M, c34, c34M]; rfl) ?_
        refine ee_assoc ?_
        refine ee_seq_reg rfl (by simp [c15, c16, c16M, c17, c18, c19, c28, c28M, c34, c34M]; rfl) ?_
        by_cases c36 : y35.1 = 0
        ·skip
         rw [if_neg (not_not_intro c36)] at q33
         refine ee_seq_condF (by simp [bV, c15, c16, c16M, c17, c18, c19, c28, c28M, c34, c34M, eq_true c36]) ?_
         refine ee_seq_skip ?_
         refine ee_seq_reg rfl (by simp [c15, c16, c16M, c17, c18, c19, c28, c28M, c34, c34M, eq_true c36]; rfl) ?_
         refine ee_ret ?_
         obtain rfl := Option.some.inj q33
         simp [FinQ, c15, c16, c16M, c17, c18, c19, c28, c28M, c34, c34M, eq_true c36, c16N, c28N, c34N]
        ·skip
         rw [if_pos c36] at q33
         refine ee_seq_condT (by simp [bV, c15, c16, c16M, c17, c18, c19, c28, c28M, c34, c34M, c36]) ?_
         refine ee_assoc ?_
         refine ee_seq_reg rfl (by simp [c15, c16, c16M, c17, c18, c19, c28, c28M, c34, c34M, c36]; rfl) ?_
         refine ee_seq_ret ?_
         obtain rfl := Option.some.inj q33
         simp [FinQ, c15, c16, c16M, c17, c18, c19, c28, c28M, c34, c34M, c36, c16N, c28N, c34N]
def kp7 : Keep := fun i => ⟨[], [], []⟩
theorem w7 {T : Tab} (hO : T.own = fun _ => []) (hT12 : T 12 = some G12) (hT21 : T 21 = some G21) (hT22 : T 22 = some G22) (hT23 : T 23 = some G23) (a0 : Tapi_Filter) (a1 : Int) (x : Bool) (hr : Llaw19_GolombDecodes a0 a1 = some x) : ∃ kp fl n, execFn tt T G kp fl n Try.f7 (E7 (a0, a1)) = some (R7 (a0, a1) x) := by
 simp only [E7, R7]
 refine fnE (kp := kp7) (w := false) body7 (by simp) ?_
 unfold c7
 rw [Try.ntmps7]
 unfold Llaw19_GolombDecodes at hr
 refine ee_seq_reg rfl (by simp []; rfl) ?_
 refine ee_assoc ?_
 obtain ⟨y6, hy6, hr⟩ := bs hr
 have ehy6 := G12_eq hy6
 simp only [E12, R12, nf, nfs] at ehy6
 refine ee_seq_reg rfl (by simp [hO, hT12, ehy6]; rfl) ?_
 by_cases c7 : y6 = true
 ·skip
  rw [if_neg (not_not_intro c7)] at hr
  refine ee_seq_condF (by simp [bV, c7]) ?_
  refine ee_seq_skip ?_
  refine ee_assoc ?_
  refine ee_seq_reg rfl (by simp [c7]; rfl) ?_
  by_cases c8 : 400 < (a0.2.length : Int)
  ·skip
   have c8N := c8
   try simp at c8N
   first | have c8M : (_ = _) = True := eq_true c8N | have c8M := c8N
   rw [if_pos c8] at hr
   refine ee_seq_condT (by simp [bV, c7, c8, c8M]) ?_
   refine ee_assoc ?_
   refine ee_seq_reg rfl (by simp [c7, c8, c8M]; rfl) ?_
   refine ee_seq_ret ?_
   obtain rfl := Option.some.inj hr
   simp [FinQ, c7, c8, c8M, c8N]
  ·skip
   have c8N := c8
   try simp at c8N
   first | have c8M : (_ = _) = True := eq_true c8N | have c8M := c8N
   rw [if_neg c8] at hr
   refine ee_seq_condF (by simp [bV, c7, c8, c8M]) ?_
   refine ee_seq_skip ?_
   obtain ⟨y9, hy9, hr⟩ := bs hr
   have ehy9 := G22_eq hy9
   simp only [E22, R22, nf, nfs] at ehy9
   refine ee_seq_reg rfl (by simp [hO, hT22, ehy9, c7, c8, c8M]; rfl) ?_
   obtain ⟨y10, hy10, hr⟩ := bs hr
   have ehy10 := G23_eq hy10
   simp only [E23, R23, nf, nfs] at ehy10
   refine ee_seq_reg rfl (by simp [hO, hT23, ehy10, c7, c8, c8M]; rfl) ?_
   by_cases c11 : y9.2 = y10.2
   ·skip
    rw [if_pos] at hr
    rotate_left
    ·simp [c7, c8, c8M, eq_true c11]
    obtain ⟨z12, hz12, hr⟩ := bs hr
    obtain ⟨y13, hy13, hz12⟩ := bs hz12
    have ehy13 := G21_eq hy13
    simp only [E21, R21, nf, nfs] at ehy13
    obtain rfl := Option.some.inj hz12
    refine ee_seq_reg rfl (by simp [hO, hT21, ehy13, c7, c8, c8M, eq_true c11]; rfl) ?_
    refine ee_ret ?_
    obtain rfl := Option.some.inj hr
    simp [FinQ, hO, hT21, ehy13, c7, c8, c8M, eq_true c11, c8N]
   ·skip
    rw [if_neg] at hr
    rotate_left
    ·simp [c7, c8, c8M, c11]
    obtain ⟨z14, hz14, hr⟩ := bs hr
    obtain rfl := Option.some.inj hz14
    refine ee_seq_reg rfl (by simp [c7, c8, c8M, c11]; rfl) ?_
    refine ee_ret ?_
    obtain rfl := Option.some.inj hr
    simp [FinQ, c7, c8, c8M, c11, c8N]
 ·skip
  rw [if_pos c7] at hr
  refine ee_seq_condT (by simp [bV, c7]) ?_
  refine ee_assoc ?_
  refine ee_seq_reg rfl (by simp [c7]; rfl) ?_
  refine ee_seq_ret ?_
  obtain rfl := Option.some.inj hr
  simp [FinQ, c7]
end Go.Proofs.Ytmjbklblgpnagaa
