import Derived.Test.YtmjbklblgpnagaaLfK
import Derived.Test.YtmjbklblgpnagaaCode
import Derived.Test.YtmjbklblgpnagaaBl
namespace Go.Proofs.Ytmjbklblgpnagaa
open Go.RowKit
open Go.Av
open Go.Lc
set_option maxRecDepth 100000
set_option linter.unusedSimpArgs false
set_option linter.unusedVariables false
set_option maxHeartbeats 4000000
variable {G : Glob}
def kp20 : Keep := fun i => if i = 7 then ⟨[2, 3, 4, 10, 11, 33, 34, 35], [4, 46], [(10, none, 46, 1)]⟩ else if i = 12 then ⟨[11, 49, 50, 51], [71], [(11, none, 71, 1)]⟩ else if i = 1000016 then ⟨[11, 49, 50, 51], [71], []⟩ else ⟨[], [], []⟩
theorem w20 {T : Tab} (hO : T.own = fun _ => []) (hT32 : T 32 = some G32) (hT33 : T 33 = some G33) (a0 : (Arr 2)) (a1 : (List (List Int))) (a2 : Int) (a3 : Int) (x : (List Int) × Int) (hr : Lref19_Values a0 a1 a2 a3 = some x) : ∃ kp fl n, execFn tt T G kp fl n Try.f20 (E20 (a0, a1, a2, a3)) = some (R20 (a0, a1, a2, a3) x) := by
 simp only [E20, R20]
 refine fnE (kp := kp20) (w := false) body20 (by simp) ?_
 unfold c20
 rw [Try.ntmps20]
 unfold Lref19_Values at hr
 refine ee_seq_reg rfl (by simp []; rfl) ?_
 refine ee_assoc ?_
 refine ee_seq_reg rfl (by simp []; rfl) ?_
 by_cases c44 : 4096 < (a1.length : Int)
 ·skip
  have c44N := c44
  try simp at c44N
  first | have c44M : (_ = _) = True := eq_true c44N | have c44M := c44N
  rw [if_pos c44] at hr
  refine ee_seq_condT (by simp [bV, c44, c44M]) ?_
  refine ee_assoc ?_
  refine ee_seq_reg rfl (by simp [c44, c44M]; rfl) ?_
  refine ee_seq_ret ?_
  obtain rfl := Option.some.inj hr
  simp [FinQ, c44, c44M, c44N]
 ·skip
  have c44N := c44
  try simp at c44N
  first | have c44M : (_ = _) = True := eq_true c44N | have c44M := c44N
  rw [if_neg c44] at hr
  refine ee_seq_condF (by simp [bV, c44, c44M]) ?_
  refine ee_seq_skip ?_
  refine ee_assoc ?_
  by_cases c45 : a2 < 0
  ·skip
   refine ee_seq_reg rfl (by simp [c44, c44M, c45]; rfl) ?_
   rw [if_pos] at hr
   rotate_left
   ·simp [c44, c44M, c45]
   refine ee_seq_condT (by simp [bV, c44, c44M, c45]) ?_
   refine ee_assoc ?_
   refine ee_seq_reg rfl (by simp [c44, c44M, c45]; rfl) ?_
   refine ee_seq_ret ?_
   obtain rfl := Option.some.inj hr
   simp [FinQ, c44, c44M, c45, c44N]
  ·skip
   by_cases c46 : 4096 < a2
   ·skip
    refine ee_seq_reg rfl (by simp [c44, c44M, c45, c46]; rfl) ?_
    rw [if_pos] at hr
    rotate_left
    ·simp [c44, c44M, c45, c46]
    refine ee_seq_condT (by simp [bV, c44, c44M, c45, c46]) ?_
    refine ee_assoc ?_
    refine ee_seq_reg rfl (by simp [c44, c44M, c45, c46]; rfl) ?_
    refine ee_seq_ret ?_
    obtain rfl := Option.some.inj hr
    simp [FinQ, c44, c44M, c45, c46, c44N]
   ·skip
    by_cases c47 : a3 < 1
    ·skip
     refine ee_seq_reg rfl (by simp [c44, c44M, c45, c46, c47]; rfl) ?_
     rw [if_pos] at hr
     rotate_left
     ·simp [c44, c44M, c45, c46, c47]
     refine ee_seq_condT (by simp [bV, c44, c44M, c45, c46, c47]) ?_
     refine ee_assoc ?_
     refine ee_seq_reg rfl (by simp [c44, c44M, c45, c46, c47]; rfl) ?_
     refine ee_seq_ret ?_
     obtain rfl := Option.some.inj hr
     simp [FinQ, c44, c44M, c45, c46, c47, c44N]
    ·skip
     refine ee_seq_reg rfl (by simp [c44, c44M, c45, c46, c47]; rfl) ?_
     by_cases c48 : 1099511627776 < a3
     ·skip
      rw [if_pos] at hr
      rotate_left
      ·simp [c44, c44M, c45, c46, c47, c48]
      refine ee_seq_condT (by simp [bV, c44, c44M, c45, c46, c47, c48]) ?_
      refine ee_assoc ?_
      refine ee_seq_reg rfl (by simp [c44, c44M, c45, c46, c47, c48]; rfl) ?_
      refine ee_seq_ret ?_
      obtain rfl := Option.some.inj hr
      simp [FinQ, c44, c44M, c45, c46, c47, c48, c44N]
     ·skip
      rw [if_neg] at hr
      rotate_left
      ·simp [c44, c44M, c45, c46, c47, c48]
      refine ee_seq_condF (by simp [bV, c44, c44M, c45, c46, c47, c48]) ?_
      refine ee_seq_skip ?_
      refine ee_seq_reg rfl (by simp [c44, c44M, c45, c46, c47, c48]; rfl) ?_
      refine ee_assoc ?_
      refine ee_seq_reg rfl (by simp [c44, c44M, c45, c46, c47, c48]; rfl) ?_
      refine ee_seq_block ?_
      refine ee_loop (kq := ⟨[2, 3, 4, 10, 11, 33, 34, 35], [4, 46], [(10, none, 46, 1)]⟩) (H := fun (s : Int × (List Int)) => match s with | (p8, p9) => (⟨(und 2 ++ ([.one (.v (.int .i64 a2)), .one (.v (.int .u64 a3)), .ptr 4 0 0 0 2] ++ (und 5 ++ ([.one (.ms 46 0 0 (p9.length) 1), .one (.slice .nil [])] ++ (und 21 ++ ([.one (.slice .no (List.map eS_I_u8 a1)), .one (.v (.int .i64 (a1.length : Int))), .one (.v (.int .i64 p8))] ++ (und 38)))))) : List PV), ([(4, ⟨0, 2, [arC .u64 a0], false, false⟩), (46, ⟨0, 1, intsR .u64 p9, false, true⟩)] : Boxes)⟩ : ASt)) (by kernel_rfl) hr (by simp [und, List.replicate, c44, c44M, c45, c46, c47, c48]) ?_
      rintro ⟨p8, p9⟩ x55r hr55
      simp only [Lref19_Values_s1] at hr55
      unfold b20_1
      simp only [und, List.replicate, List.cons_append, List.nil_append]
      refine ee_seq_reg rfl (by simp [c44, c44M, c45, c46, c47, c48]; rfl) ?_
      by_cases c56 : p8 < (a1.length : Int)
      ·skip
       have c56N := c56
       try simp at c56N
       first | have c56M : (_ = _) = True := eq_true c56N | have c56M := c56N
       rw [if_pos] at hr55
       rotate_left
       ·simp [c44, c44M, c45, c46, c47, c48, c56, c56M]
       refine ee_seq_condT (by simp [bV, c44, c44M, c45, c46, c47, c48, c56, c56M]) ?_
       refine ee_seq_skip ?_
       refine ee_seq_block ?_
       obtain ⟨x57, hx57, hr55⟩ := bs hr55
       obtain ⟨hx57a, hx57b⟩ := idx_some hx57
       have hx57c := getE_of hx57b
       refine ee_seq_reg rfl (by simp [hx57a, hx57b, hx57c, c44, c44M, c45, c46, c47, c48, c56, c56M]; rfl) ?_
       obtain ⟨y58, hy58, hr55⟩ := bs hr55
       have ehy58 := G32_eq hy58
       simp only [E32, R32, nf, nfs] at ehy58
       obtain ⟨_, u59, hr55⟩ := bs hr55
       have u59_0 := chk_some u59
       have n1_u59_0 : (p9.length + 1) * 8 ≤ 140737488355328 := by omega
       have n2_u59_0 : p9.length + 1 ≤ 9223372036854775807 := by omega
       refine ee_reg rfl (by simp [hO, hT32, ehy58, n1_u59_0, n2_u59_0, c44, c44M, c45, c46, c47, c48, c56, c56M]; rfl) ?_
       simp only [pq, reduceCtorEq]
       refine ee_reg rfl (by simp [c44, c44M, c45, c46, c47, c48, c56, c56M]; rfl) ?_
       obtain rfl := Option.some.inj hr55
       simp only [pq, reduceCtorEq]
       simp [und, List.replicate, Nat.add_assoc, c44, c44M, c45, c46, c47, c48, c56, c56M]
      ·skip
       have c56N := c56
       try simp at c56N
       first | have c56M : (_ = _) = True := eq_true c56N | have c56M := c56N
       rw [if_neg] at hr55
       rotate_left
       ·simp [c44, c44M, c45, c46, c47, c48, c56, c56M]
       refine ee_seq_condF (by simp [bV, c44, c44M, c45, c46, c47, c48, c56, c56M]) ?_
       refine ee_seq_exit ?_
       obtain ⟨r60, q60, rfl⟩ := ms hr55
       simp only [pq, reduceCtorEq]
       rintro rfl
       try simp only [pq, reduceCtorEq]
       unfold Lref19_Values_k1 at q60
       refine ee_assoc ?_
       obtain ⟨y61, hy61, q60⟩ := bs q60
       have ehy61 := G33_eq hy61
       simp only [E33, R33, nf, nfs] at ehy61
       refine ee_seq_reg rfl (by simp [hO, hT33, ehy61, c44, c44M, c45, c46, c47, c48, c56, c56M]; rfl) ?_
       refine ee_seq_block ?_
       refine ee_loop (kq := ⟨[11, 49, 50, 51], [71], [(11, none, 71, 1)]⟩) (H := fun (s : Int × (List Int)) => match s with | (p26, p27) => (⟨(und 11 ++ ([.one (.ms 71 0 0 (p27.length) 1)] ++ (und 37 ++ ([.one (.slice .no (intsR .u64 y61)), .one (.v (.int .i64 (y61.length : Int))), .one (.v (.int .i64 p26))] ++ (und 22)))) : List PV), ([(71, ⟨0, 1, intsR .u64 p27, false, true⟩)] : Boxes)⟩ : ASt)) (by kernel_rfl) q60 (by simp [und, List.replicate, c44, c44M, c45, c46, c47, c48, c56, c56M]) ?_
       rintro ⟨p26, p27⟩ x78r hr78
       simp only [Lref19_Values_s2] at hr78
       unfold b20_2
       simp only [und, List.replicate, List.cons_append, List.nil_append]
       refine ee_seq_reg rfl (by simp [c44, c44M, c45, c46, c47, c48, c56, c56M]; rfl) ?_
       by_cases c79 : p26 < (y61.length : Int)
       ·skip
        have c79N := c79
        try simp at c79N
        first | have c79M : (_ = _) = True := eq_true c79N | have c79M := c79N
        rw [if_pos] at hr78
        rotate_left
        ·simp [c44, c44M, c45, c46, c47, c48, c56, c56M, c79, c79M]
        refine ee_seq_condT (by simp [bV, c44, c44M, c45, c46, c47, c48, c56, c56M, c79, c79M]) ?_
        refine ee_seq_skip ?_
        refine ee_seq_block ?_
        obtain ⟨x80, hx80, hr78⟩ := bs hr78
        obtain ⟨hx80a, hx80b⟩ := idx_some hx80
        have hx80c := getE_of hx80b
        refine ee_seq_reg rfl (by simp [hx80a, hx80b, hx80c, c44, c44M, c45, c46, c47, c48, c56, c56M, c79, c79M]; rfl) ?_
        by_cases c81 : p26 = 0
        ·skip
         rw [if_pos] at hr78
         rotate_left
         ·simp [c44, c44M, c45, c46, c47, c48, c56, c56M, c79, c79M, eq_true c81]
         obtain ⟨z82, hz82, hr78⟩ := bs hr78
         obtain rfl := Option.some.inj hz82
         refine ee_seq_reg rfl (by simp [c44, c44M, c45, c46, c47, c48, c56, c56M, c79, c79M, eq_true c81]; rfl) ?_
         rw [if_pos] at hr78
         rotate_left
         ·simp [c44, c44M, c45, c46, c47, c48, c56, c56M, c79, c79M, eq_true c81]
         refine ee_condT (by simp [bV, c44, c44M, c45, c46, c47, c48, c56, c56M, c79, c79M, eq_true c81]) ?_
         obtain ⟨_, u84, hr78⟩ := bs hr78
         have u84_0 := chk_some u84
         have n1_u84_0 : (p27.length + 1) * 8 ≤ 140737488355328 := by omega
         have n2_u84_0 : p27.length + 1 ≤ 9223372036854775807 := by omega
         refine ee_reg rfl (by simp [n1_u84_0, n2_u84_0, c44, c44M, c45, c46, c47, c48, c56, c56M, c79, c79M, eq_true c81]; rfl) ?_
         simp only [pq, reduceCtorEq]
         unfold Lref19_Values_k3 at hr78
         refine ee_regJ rfl (kq := ⟨[11, 49, 50, 51], [71], []⟩) rfl (by simp [joinSt, c44, c44M, c45, c46, c47, c48, c56, c56M, c79, c79M, eq_true c81]; rfl) (by simp [c44, c44M, c45, c46, c47, c48, c56, c56M, c79, c79M, eq_true c81]; rfl) ?_
         obtain rfl := Option.some.inj hr78
         simp only [pq, reduceCtorEq]
         simp [und, List.replicate, Nat.add_assoc, c44, c44M, c45, c46, c47, c48, c56, c56M, c79, c79M, eq_true c81]
        ·skip
         rw [if_neg] at hr78
         rotate_left
         ·simp [c44, c44M, c45, c46, c47, c48, c56, c56M, c79, c79M, c81]
         obtain ⟨z85, hz85, hr78⟩ := bs hr78
         obtain ⟨j86, hj86, hz85⟩ := bs hz85
         obtain ⟨j86a, j86b, j86c⟩ := inA_some hj86
         obtain ⟨x87, hx87, hz85⟩ := bs hz85
         have ghx87 := getE_of hx87
         obtain rfl := Option.some.inj hz85
         refine ee_seq_reg rfl (by simp [j86a, j86b, j86c, hx87, ghx87, c44, c44M, c45, c46, c47, c48, c56, c56M, c79, c79M, c81]; rfl) ?_
         refine ee_J hr78 (.normal) (fun (s : (List Int)) => match s with | p39 => (⟨(und 11 ++ ([.one (.ms 71 0 0 (p39.length) 1)] ++ (und 37 ++ ([.one (.slice .no (intsR .u64 y61)), .one (.v (.int .i64 (y61.length : Int))), .one (.v (.int .i64 p26))] ++ (und 22)))) : List PV), ([(71, ⟨0, 1, intsR .u64 p39, false, true⟩)] : Boxes)⟩ : ASt)) (fun (s : (List Int)) => match s with | p39 => Lref19_Values_k3 p26 p39) ?_ ?_
         ·skip
          rintro p39 hk90
          change Lref19_Values_k3 p26 p39 = _ at hk90
          simp only [pq, reduceCtorEq]
          simp only [und, List.replicate, List.cons_append, List.nil_append]
          unfold Lref19_Values_k3 at hk90
          refine ee_regJ rfl (kq := ⟨[11, 49, 50, 51], [71], []⟩) rfl (by simp [joinSt, c44, c44M, c45, c46, c47, c48, c56, c56M, c79, c79M, c81]; rfl) (by simp [c44, c44M, c45, c46, c47, c48, c56, c56M, c79, c79M, c81]; rfl) ?_
          obtain rfl := Option.some.inj hk90
          simp only [pq, reduceCtorEq]
          simp [und, List.replicate, Nat.add_assoc, c44, c44M, c45, c46, c47, c48, c56, c56M, c79, c79M, c81]
         ·skip
          intro J90
          simp only [pq, reduceCtorEq] at J90
          by_cases c91 : x80 = x87
          ·skip
           rw [if_neg] at hr78
           rotate_left
           ·simp [c44, c44M, c45, c46, c47, c48, c56, c56M, c79, c79M, c81, eq_true c91]
           refine ee_condF (by simp [bV, c44, c44M, c45, c46, c47, c48, c56, c56M, c79, c79M, c81, eq_true c91]) ?_
           refine ee_skip ?_
           simp only [pq, reduceCtorEq]
           exact ee_join (key := 1000016) (kq := ⟨[11, 49, 50, 51], [71], []⟩) rfl rfl rfl (by simp [und, List.replicate, c44, c44M, c45, c46, c47, c48, c56, c56M, c79, c79M, c81, eq_true c91]) (J90 p27 hr78)
          ·skip
           rw [if_pos] at hr78
           rotate_left
           ·simp [c44, c44M, c45, c46, c47, c48, c56, c56M, c79, c79M, c81, c91]
           refine ee_condT (by simp [bV, c44, c44M, c45, c46, c47, c48, c56, c56M, c79, c79M, c81, c91]) ?_
           obtain ⟨_, u92, hr78⟩ := bs hr78
           have u92_0 := chk_some u92
           have n1_u92_0 : (p27.length + 1) * 8 ≤ 140737488355328 := by omega
           have n2_u92_0 : p27.length + 1 ≤ 9223372036854775807 := by omega
           refine ee_reg rfl (by simp [n1_u92_0, n2_u92_0, c44, c44M, c45, c46, c47, c48, c56, c56M, c79, c79M, c81, c91]; rfl) ?_
           simp only [pq, reduceCtorEq]
           exact ee_join (key := 1000016) (kq := ⟨[11, 49, 50, 51], [71], []⟩) rfl rfl rfl (by simp [und, List.replicate, c44, c44M, c45, c46, c47, c48, c56, c56M, c79, c79M, c81, c91]) (J90 (p27 ++ [x80]) hr78)
       ·skip
        have c79N := c79
        try simp at c79N
        first | have c79M : (_ = _) = True := eq_true c79N | have c79M := c79N
        rw [if_neg] at hr78
        rotate_left
        ·simp [c44, c44M, c45, c46, c47, c48, c56, c56M, c79, c79M]
        refine ee_seq_condF (by simp [bV, c44, c44M, c45, c46, c47, c48, c56, c56M, c79, c79M]) ?_
        refine ee_seq_exit ?_
        obtain ⟨r93, q93, rfl⟩ := ms hr78
        simp only [pq, reduceCtorEq]
        rintro rfl
        try simp only [pq, reduceCtorEq]
        unfold Lref19_Values_k2 at q93
        refine ee_seq_reg rfl (by simp [c44, c44M, c45, c46, c47, c48, c56, c56M, c79, c79M]; rfl) ?_
        refine ee_ret ?_
        obtain rfl := Option.some.inj q93
        simp [FinQ, c44, c44M, c45, c46, c47, c48, c56, c56M, c79, c79M, c44N, c56N, c79N]
def kp21 : Keep := fun i => if i = 4 then ⟨[0, 1, 12, 13], [], []⟩ else ⟨[], [], []⟩
theorem w21 {T : Tab} (a0 : (List Int)) (a1 : (List Int)) (x : Bool) (hr : Llaw19_same a0 a1 = some x) : ∃ kp fl n, execFn tt T G kp fl n Try.f21 (E21 (a0, a1)) = some (R21 (a0, a1) x) := by
 simp only [E21, R21]
 refine fnE (kp := kp21) (w := false) body21 (by simp) ?_
 unfold c21
 rw [Try.ntmps21]
 unfold Llaw19_same at hr
 refine ee_seq_reg rfl (by simp []; rfl) ?_
 refine ee_assoc ?_
 refine ee_seq_reg rfl (by simp []; rfl) ?_
 by_cases c11 : (a0.length : Int) = (a1.length : Int)
 ·skip
  have c11N := c11
  try simp at c11N
  rw [if_neg (not_not_intro c11)] at hr
  refine ee_seq_condF (by simp [bV, eq_true c11, eq_true c11N]) ?_
  refine ee_seq_skip ?_
  refine ee_assoc ?_
  refine ee_seq_reg rfl (by simp [eq_true c11, eq_true c11N]; rfl) ?_
  refine ee_seq_block ?_
  refine ee_loop (kq := ⟨[0, 1, 12, 13], [], []⟩) (H := fun (s : Int) => match s with | p6 => (⟨([.one (.slice .no (intsR .u64 a0)), .one (.slice .no (intsR .u64 a1))] ++ (und 10 ++ ([.one (.v (.int .i64 (a0.length : Int))), .one (.v (.int .i64 p6))] ++ (und 12))) : List PV), ([] : Boxes)⟩ : ASt)) (by kernel_rfl) hr (by simp [und, List.replicate, eq_true c11, eq_true c11N]) ?_
  rintro p6 x18r hr18
  simp only [Llaw19_same_s1] at hr18
  unfold b21_1
  simp only [und, List.replicate, List.cons_append, List.nil_append]
  refine ee_seq_reg rfl (by simp [eq_true c11, eq_true c11N]; rfl) ?_
  by_cases c19 : p6 < (a0.length : Int)
  ·skip
   have c19N := c19
   try simp at c19N
   first | have c19M : (_ = _) = True := eq_true c19N | have c19M := c19N
   rw [if_pos] at hr18
   rotate_left
   ·simp [eq_true c11, eq_true c11N, c19, c19M]
   refine ee_seq_condT (by simp [bV, eq_true c11, eq_true c11N, c19, c19M]) ?_
   refine ee_seq_skip ?_
   refine ee_seq_block ?_
   refine ee_seq_reg rfl (by simp [eq_true c11, eq_true c11N, c19, c19M]; rfl) ?_
   obtain ⟨x20, hx20, hr18⟩ := bs hr18
   obtain ⟨hx20a, hx20b⟩ := idx_some hx20
   have hx20c := getE_of hx20b
   obtain ⟨x21, hx21, hr18⟩ := bs hr18
   obtain ⟨hx21a, hx21b⟩ := idx_some hx21
   have hx21c := getE_of hx21b
   refine ee_seq_draw rfl (by simp [hx20a, hx20b, hx20c, hx21a, hx21b, hx21c, eq_true c11, eq_true c11N, c19, c19M]; first | exact ⟨rfl, rfl⟩ | rfl) (by kernel_rfl) ?_
   by_cases c22 : x20 = x21
   ·skip
    rw [if_neg (not_not_intro c22)] at hr18
    refine ee_condF (by simp [bV, eq_true c11, eq_true c11N, c19, c19M, eq_true c22]) ?_
    refine ee_skip ?_
    simp only [pq, reduceCtorEq]
    refine ee_reg rfl (by simp [eq_true c11, eq_true c11N, c19, c19M, eq_true c22]; rfl) ?_
    obtain rfl := Option.some.inj hr18
    simp only [pq, reduceCtorEq]
    simp [und, List.replicate, Nat.add_assoc, eq_true c11, eq_true c11N, c19, c19M, eq_true c22]
   ·skip
    rw [if_pos c22] at hr18
    refine ee_condT (by simp [bV, eq_true c11, eq_true c11N, c19, c19M, c22]) ?_
    refine ee_seq_reg rfl (by simp [eq_true c11, eq_true c11N, c19, c19M, c22]; rfl) ?_
    refine ee_ret ?_
    obtain rfl := Option.some.inj hr18
    simp only [pq, reduceCtorEq]
    rintro rfl
    simp [FinQ, eq_true c11, eq_true c11N, c19, c19M, c22, c19N]
  ·skip
   have c19N := c19
   try simp at c19N
   first | have c19M : (_ = _) = True := eq_true c19N | have c19M := c19N
   rw [if_neg] at hr18
   rotate_left
   ·simp [eq_true c11, eq_true c11N, c19, c19M]
   refine ee_seq_condF (by simp [bV, eq_true c11, eq_true c11N, c19, c19M]) ?_
   refine ee_seq_exit ?_
   obtain ⟨r23, q23, rfl⟩ := ms hr18
   simp only [pq, reduceCtorEq]
   rintro rfl
   try simp only [pq, reduceCtorEq]
   unfold Llaw19_same_k1 at q23
   refine ee_seq_reg rfl (by simp [eq_true c11, eq_true c11N, c19, c19M]; rfl) ?_
   refine ee_ret ?_
   obtain rfl := Option.some.inj q23
   simp [FinQ, eq_true c11, eq_true c11N, c19, c19M, c19N]
 ·skip
  have c11N := c11
  try simp at c11N
  first | have c11M : (_ = _) = True := eq_true c11N | have c11M := c11N
  rw [if_pos c11] at hr
  refine ee_seq_condT (by simp [bV, c11, c11M]) ?_
  refine ee_assoc ?_
  refine ee_seq_reg rfl (by simp [c11, c11M]; rfl) ?_
  refine ee_seq_ret ?_
  obtain rfl := Option.some.inj hr
  simp [FinQ, c11, c11M, c11N]
def kp6 : Keep := fun i => ⟨[], [], []⟩
theorem w6 {T : Tab} (hO : T.own = fun _ => []) (hT12 : T 12 = some G12) (hT16 : T 16 = some G16) (hT19 : T 19 = some G19) (hT20 : T 20 = some G20) (hT21 : T 21 = some G21) (a0 : (Arr 2)) (a1 : (List (List Int))) (a2 : Int) (a3 : Int) (x : Bool) (hr : Llaw19_GolombValues a0 a1 a2 a3 = some x) : ∃ kp fl n, execFn tt T G kp fl n Try.f6 (E6 (a0, a1, a2, a3)) = some (R6 (a0, a1, a2, a3) x) := by
 simp only [E6, R6]
 refine fnE (kp := kp6) (w := false) body6 (by simp) ?_
 unfold c6
 rw [Try.ntmps6]
 unfold Llaw19_GolombValues at hr
 refine ee_seq_reg rfl (by simp []; rfl) ?_
 refine ee_assoc ?_
 obtain ⟨y7, hy7, hr⟩ := bs hr
 have ehy7 := G12_eq hy7
 simp only [E12, R12, nf, nfs] at ehy7
 refine ee_seq_reg rfl (by simp [hO, hT12, ehy7]; rfl) ?_
 by_cases c8 : y7 = true
 ·skip
  rw [if_neg (not_not_intro c8)] at hr
  refine ee_seq_condF (by simp [bV, c8]) ?_
  refine ee_seq_skip ?_
  refine ee_assoc ?_
  obtain ⟨y9, hy9, hr⟩ := bs hr
  have ehy9 := G16_eq hy9
  simp only [E16, R16, nf, nfs] at ehy9
  refine ee_seq_reg rfl (by simp [hO, hT16, ehy9, c8]; rfl) ?_
  by_cases c10 : y9 = true
  ·skip
   rw [if_neg (not_not_intro c10)] at hr
   refine ee_seq_condF (by simp [bV, c8, c10]) ?_
   refine ee_seq_skip ?_
   obtain ⟨y11, hy11, hr⟩ := bs hr
   have ehy11 := G19_eq hy11
   simp only [E19, R19, nf, nfs] at ehy11
   refine ee_seq_reg rfl (by simp [hO, hT19, ehy11, c8, c10]; rfl) ?_
   obtain ⟨y12, hy12, hr⟩ := bs hr
   have ehy12 := G20_eq hy12
   simp only [E20, R20, nf, nfs] at ehy12
   refine ee_seq_reg rfl (by simp [hO, hT20, ehy12, c8, c10]; rfl) ?_
   by_cases c13 : y11.2 = y12.2
   ·skip
    rw [if_pos] at hr
    rotate_left
    ·simp [c8, c10, eq_true c13]
    obtain ⟨z14, hz14, hr⟩ := bs hr
    obtain ⟨y15, hy15, hz14⟩ := bs hz14
    have ehy15 := G21_eq hy15
    simp only [E21, R21, nf, nfs] at ehy15
    obtain rfl := Option.some.inj hz14
    refine ee_seq_reg rfl (by simp [hO, hT21, ehy15, c8, c10, eq_true c13]; rfl) ?_
    refine ee_ret ?_
    obtain rfl := Option.some.inj hr
    simp [FinQ, hO, hT21, ehy15, c8, c10, eq_true c13]
   ·skip
    rw [if_neg] at hr
    rotate_left
    ·simp [c8, c10, c13]
    obtain ⟨z16, hz16, hr⟩ := bs hr
    obtain rfl := Option.some.inj hz16
    refine ee_seq_reg rfl (by simp [c8, c10, c13]; rfl) ?_
    refine ee_ret ?_
    obtain rfl := Option.some.inj hr
    simp [FinQ, c8, c10, c13]
  ·skip
   rw [if_pos c10] at hr
   refine ee_seq_condT (by simp [bV, c8, c10]) ?_
   refine ee_assoc ?_
   refine ee_seq_reg rfl (by simp [c8, c10]; rfl) ?_
   refine ee_seq_ret ?_
   obtain rfl := Option.some.inj hr
   simp [FinQ, c8, c10]
 ·skip
  rw [if_pos c8] at hr
  refine ee_seq_condT (by simp [bV, c8]) ?_
  refine ee_assoc ?_
  refine ee_seq_reg rfl (by simp [c8]; rfl) ?_
  refine ee_seq_ret ?_
  obtain rfl := Option.some.inj hr
  simp [FinQ, c8]
end Go.Proofs.Ytmjbklblgpnagaa
