import Derived.Test.YtmjbklblgpnagaaLfK
import Derived.Test.YtmjbklblgpnagaaCode
import Derived.Test.YtmjbklblgpnagaaBl
namespace Go.Proofs.Ytmjbklblgpnagaa
open Go.RowKit
open Go.Av
open Go.Lc
set_option maxRecDepth 100000
set_option linter.unusedSimpArgs false
set_option linter.unusedVariables false
set_option maxHeartbeats 4000000
variable {G : Glob}
def kp35 : Keep := fun i => if i = 1000010 then ⟨[1, 2, 3, 9], [3], []⟩ else if i = 6 then ⟨[1, 2, 3, 9], [3], []⟩ else ⟨[], [], []⟩
theorem w35 {T : Tab} (hO : T.own = fun _ => []) (hT40 : T 40 = some G40) (hT52 : T 52 = some G52) (hT53 : T 53 = some G53) (a0 : Tapi_Bits) (a1 : Int) (a2 : Int) (x : Int × Int × Int) (hr : Lbits_ReadRice a0 a1 a2 = some x) : ∃ kp fl n, execFn tt T G kp fl n Try.f35 (E35 (a0, a1, a2)) = some (R35 (a0, a1, a2) x) := by
 simp only [E35, R35]
 refine fnE (kp := kp35) (w := false) body35 (by simp) ?_
 unfold c35
 rw [Try.ntmps35]
 unfold Lbits_ReadRice at hr
 refine ee_seq_reg rfl (by simp []; rfl) ?_
 refine ee_assoc ?_
 obtain ⟨y14, hy14, hr⟩ := bs hr
 have ehy14 := G40_eq hy14
 simp only [E40, R40, nf, nfs] at ehy14
 refine ee_seq_reg rfl (by simp [hO, hT40, ehy14]; rfl) ?_
 by_cases c15 : y14 = true
 ·skip
  rw [if_neg (not_not_intro c15)] at hr
  refine ee_seq_condF (by simp [bV, c15]) ?_
  refine ee_seq_skip ?_
  refine ee_assoc ?_
  by_cases c16 : a2 < 0
  ·skip
   refine ee_seq_reg rfl (by simp [c15, c16]; rfl) ?_
   rw [if_pos] at hr
   rotate_left
   ·simp [c15, c16]
   refine ee_seq_condT (by simp [bV, c15, c16]) ?_
   refine ee_assoc ?_
   refine ee_seq_reg rfl (by simp [c15, c16]; rfl) ?_
   refine ee_seq_ret ?_
   obtain rfl := Option.some.inj hr
   simp [FinQ, c15, c16]
  ·skip
   by_cases c17 : 32 < a2
   ·skip
    refine ee_seq_reg rfl (by simp [c15, c16, c17]; rfl) ?_
    rw [if_pos] at hr
    rotate_left
    ·simp [c15, c16, c17]
    refine ee_seq_condT (by simp [bV, c15, c16, c17]) ?_
    refine ee_assoc ?_
    refine ee_seq_reg rfl (by simp [c15, c16, c17]; rfl) ?_
    refine ee_seq_ret ?_
    obtain rfl := Option.some.inj hr
    simp [FinQ, c15, c16, c17]
   ·skip
    by_cases c18 : a1 < 0
    ·skip
     refine ee_seq_reg rfl (by simp [c15, c16, c17, c18]; rfl) ?_
     rw [if_pos] at hr
     rotate_left
     ·simp [c15, c16, c17, c18]
     refine ee_seq_condT (by simp [bV, c15, c16, c17, c18]) ?_
     refine ee_assoc ?_
     refine ee_seq_reg rfl (by simp [c15, c16, c17, c18]; rfl) ?_
     refine ee_seq_ret ?_
     obtain rfl := Option.some.inj hr
     simp [FinQ, c15, c16, c17, c18]
    ·skip
     refine ee_seq_reg rfl (by simp [c15, c16, c17, c18]; rfl) ?_
     by_cases c19 : a0.2 < a1
     ·skip
      rw [if_pos] at hr
      rotate_left
      ·simp [c15, c16, c17, c18, c19]
      refine ee_seq_condT (by simp [bV, c15, c16, c17, c18, c19]) ?_
      refine ee_assoc ?_
      refine ee_seq_reg rfl (by simp [c15, c16, c17, c18, c19]; rfl) ?_
      refine ee_seq_ret ?_
      obtain rfl := Option.some.inj hr
      simp [FinQ, c15, c16, c17, c18, c19]
     ·skip
      rw [if_neg] at hr
      rotate_left
      ·simp [c15, c16, c17, c18, c19]
      refine ee_seq_condF (by simp [bV, c15, c16, c17, c18, c19]) ?_
      refine ee_seq_skip ?_
      refine ee_seq_reg rfl (by simp [c15, c16, c17, c18, c19]; rfl) ?_
      refine ee_seq_block ?_
      refine ee_J hr (.exit 0) (fun (s : Int) => match s with | p7 => (⟨(und 1 ++ ([.one (.v (.int .i64 a1)), .one (.v (.int .i64 a2)), .ptr 3 0 0 0 2] ++ (und 5 ++ ([.one (.v (.int .i64 p7))] ++ (und 60)))) : List PV), ([(3, ⟨0, 2, [[.slice .no (intsR .u8 a0.1), .v (.int .i64 a0.2)]], false, false⟩)] : Boxes)⟩ : ASt)) (fun (s : Int) => match s with | p7 => Lbits_ReadRice_k1 a0 p7 a2 a1) ?_ ?_
      ·skip
       rintro p7 hk29
       change Lbits_ReadRice_k1 a0 p7 a2 a1 = _ at hk29
       simp only [pq, reduceCtorEq]
       simp only [und, List.replicate, List.cons_append, List.nil_append]
       unfold Lbits_ReadRice_k1 at hk29
       refine ee_assoc ?_
       refine ee_seq_regJ rfl (kq := ⟨[1, 2, 3, 9], [3], []⟩) rfl (by simp [joinSt, c15, c16, c17, c18, c19]; rfl) (by simp [c15, c16, c17, c18, c19]; rfl) ?_
       by_cases c30 : IntKind.i64.wrap (a0.2 - p7) < IntKind.i64.wrap (1 + a2)
       ·skip
        rw [if_pos c30] at hk29
        refine ee_seq_condT (by simp [bV, c15, c16, c17, c18, c19, c30]) ?_
        refine ee_assoc ?_
        refine ee_seq_reg rfl (by simp [c15, c16, c17, c18, c19, c30]; rfl) ?_
        refine ee_seq_ret ?_
        obtain rfl := Option.some.inj hk29
        simp [FinQ, c15, c16, c17, c18, c19, c30]
       ·skip
        rw [if_neg c30] at hk29
        refine ee_seq_condF (by simp [bV, c15, c16, c17, c18, c19, c30]) ?_
        refine ee_seq_skip ?_
        obtain ⟨_, u31, hk29⟩ := bs hk29
        have u31_0 := chk_some u31
        obtain ⟨y32, hy32, hk29⟩ := bs hk29
        have ehy32 := G53_eq hy32
        simp only [E53, R53, nf, nfs] at ehy32
        refine ee_seq_draw rfl (by simp [u31_0, hO, hT53, ehy32, c15, c16, c17, c18, c19, c30]; first | exact ⟨rfl, rfl⟩ | rfl) (by kernel_rfl) ?_
        refine ee_seq_reg rfl (by simp [c15, c16, c17, c18, c19, c30]; rfl) ?_
        refine ee_ret ?_
        obtain rfl := Option.some.inj hk29
        simp [FinQ, c15, c16, c17, c18, c19, c30]
      ·skip
       intro J29
       simp only [pq, reduceCtorEq] at J29
       refine ee_loop (kq := ⟨[1, 2, 3, 9], [3], []⟩) (H := fun (s : Int) => match s with | p7 => (⟨(und 1 ++ ([.one (.v (.int .i64 a1)), .one (.v (.int .i64 a2)), .ptr 3 0 0 0 2] ++ (und 5 ++ ([.one (.v (.int .i64 p7))] ++ (und 60)))) : List PV), ([(3, ⟨0, 2, [[.slice .no (intsR .u8 a0.1), .v (.int .i64 a0.2)]], false, false⟩)] : Boxes)⟩ : ASt)) (by kernel_rfl) hr (by simp [und, List.replicate, c15, c16, c17, c18, c19]) ?_
       rintro p7 x33r hr33
       simp only [Lbits_ReadRice_s1] at hr33
       unfold b35_1
       simp only [und, List.replicate, List.cons_append, List.nil_append]
       refine ee_assoc ?_
       by_cases c34 : p7 < a0.2
       ·skip
        rw [if_pos] at hr33
        rotate_left
        ·simp [c15, c16, c17, c18, c19, c34]
        obtain ⟨z35, hz35, hr33⟩ := bs hr33
        obtain ⟨y36, hy36, hz35⟩ := bs hz35
        have ehy36 := G52_eq hy36
        simp only [E52, R52, nf, nfs] at ehy36
        obtain rfl := Option.some.inj hz35
        refine ee_seq_reg rfl (by simp [hO, hT52, ehy36, c15, c16, c17, c18, c19, c34]; rfl) ?_
        by_cases c37 : y36 = true
        ·skip
         rw [if_pos] at hr33
         rotate_left
         ·simp [c15, c16, c17, c18, c19, c34, c37]
         refine ee_seq_condT (by simp [bV, c15, c16, c17, c18, c19, c34, c37]) ?_
         refine ee_seq_skip ?_
         refine ee_block ?_
         refine ee_seq_reg rfl (by simp [c15, c16, c17, c18, c19, c34, c37]; rfl) ?_
         refine ee_seq_reg rfl (by simp [c15, c16, c17, c18, c19, c34, c37]; rfl) ?_
         by_cases c38 : 65536 < IntKind.i64.wrap ((IntKind.i64.wrap (p7 + 1)) - a1)
         ·skip
          rw [if_pos] at hr33
          rotate_left
          ·simp [c15, c16, c17, c18, c19, c34, c37, c38]
          refine ee_condT (by simp [bV, c15, c16, c17, c18, c19, c34, c37, c38]) ?_
          refine ee_seq_reg rfl (by simp [c15, c16, c17, c18, c19, c34, c37, c38]; rfl) ?_
          refine ee_ret ?_
          obtain rfl := Option.some.inj hr33
          simp only [pq, reduceCtorEq]
          rintro rfl
          simp [FinQ, c15, c16, c17, c18, c19, c34, c37, c38]
         ·skip
          rw [if_neg] at hr33
          rotate_left
          ·simp [c15, c16, c17, c18, c19, c34, c37, c38]
          refine ee_condF (by simp [bV, c15, c16, c17, c18, c19, c34, c37, c38]) ?_
          refine ee_skip ?_
          obtain rfl := Option.some.inj hr33
          simp only [pq, reduceCtorEq]
          simp [und, List.replicate, Nat.add_assoc, c15, c16, c17, c18, c19, c34, c37, c38]
        ·skip
         rw [if_neg] at hr33
         rotate_left
         ·simp [c15, c16, c17, c18, c19, c34, c37]
         refine ee_seq_condF (by simp [bV, c15, c16, c17, c18, c19, c34, c37]) ?_
         refine ee_seq_exit ?_
         obtain ⟨r39, q39, rfl⟩ := ms hr33
         simp only [pq, reduceCtorEq]
         rintro rfl
         try simp only [pq, reduceCtorEq]
         exact ee_join (key := 1000010) (kq := ⟨[1, 2, 3, 9], [3], []⟩) rfl rfl rfl (by simp [und, List.replicate, c15, c16, c17, c18, c19, c34, c37]) (J29 p7 q39)
       ·skip
        rw [if_neg] at hr33
        rotate_left
        ·simp [c15, c16, c17, c18, c19, c34]
        obtain ⟨z40, hz40, hr33⟩ := bs hr33
        obtain rfl := Option.some.inj hz40
        refine ee_seq_reg rfl (by simp [c15, c16, c17, c18, c19, c34]; rfl) ?_
        rw [if_neg] at hr33
        rotate_left
        ·simp [c15, c16, c17, c18, c19, c34]
        refine ee_seq_condF (by simp [bV, c15, c16, c17, c18, c19, c34]) ?_
        refine ee_seq_exit ?_
        obtain ⟨r41, q41, rfl⟩ := ms hr33
        simp only [pq, reduceCtorEq]
        rintro rfl
        try simp only [pq, reduceCtorEq]
        exact ee_join (key := 1000010) (kq := ⟨[1, 2, 3, 9], [3], []⟩) rfl rfl rfl (by simp [und, List.replicate, c15, c16, c17, c18, c19, c34]) (J29 p7 q41)
 ·skip
  rw [if_pos c15] at hr
  refine ee_seq_condT (by simp [bV, c15]) ?_
  refine ee_assoc ?_
  refine ee_seq_reg rfl (by simp [c15]; rfl) ?_
  refine ee_seq_ret ?_
  obtain rfl := Option.some.inj hr
  simp [FinQ, c15]
def kp36 : Keep := fun i => ⟨[], [], []⟩
theorem w36 {T : Tab} (hO : T.own = fun _ => []) (hT40 : T 40 = some G40) (hT53 : T 53 = some G53) (a0 : Tapi_Bits) (a1 : Int) (a2 : Int) (x : Int × Int × Int) (hr : Lbits_Read a0 a1 a2 = some x) : ∃ kp fl n, execFn tt T G kp fl n Try.f36 (E36 (a0, a1, a2)) = some (R36 (a0, a1, a2) x) := by
 simp only [E36, R36]
 refine fnE (kp := kp36) (w := false) body36 (by simp) ?_
 unfold c36
 rw [Try.ntmps36]
 unfold Lbits_Read at hr
 refine ee_seq_reg rfl (by simp []; rfl) ?_
 refine ee_assoc ?_
 obtain ⟨y3, hy3, hr⟩ := bs hr
 have ehy3 := G40_eq hy3
 simp only [E40, R40, nf, nfs] at ehy3
 refine ee_seq_reg rfl (by simp [hO, hT40, ehy3]; rfl) ?_
 by_cases c4 : y3 = true
 ·skip
  rw [if_neg (not_not_intro c4)] at hr
  refine ee_seq_condF (by simp [bV, c4]) ?_
  refine ee_seq_skip ?_
  refine ee_assoc ?_
  by_cases c5 : a2 < 0
  ·skip
   refine ee_seq_reg rfl (by simp [c4, c5]; rfl) ?_
   rw [if_pos] at hr
   rotate_left
   ·simp [c4, c5]
   refine ee_seq_condT (by simp [bV, c4, c5]) ?_
   refine ee_assoc ?_
   refine ee_seq_reg rfl (by simp [c4, c5]; rfl) ?_
   refine ee_seq_ret ?_
   obtain rfl := Option.some.inj hr
   simp [FinQ, c4, c5]
  ·skip
   by_cases c6 : 64 < a2
   ·skip
    refine ee_seq_reg rfl (by simp [c4, c5, c6]; rfl) ?_
    rw [if_pos] at hr
    rotate_left
    ·simp [c4, c5, c6]
    refine ee_seq_condT (by simp [bV, c4, c5, c6]) ?_
    refine ee_assoc ?_
    refine ee_seq_reg rfl (by simp [c4, c5, c6]; rfl) ?_
    refine ee_seq_ret ?_
    obtain rfl := Option.some.inj hr
    simp [FinQ, c4, c5, c6]
   ·skip
    by_cases c7 : a1 < 0
    ·skip
     refine ee_seq_reg rfl (by simp [c4, c5, c6, c7]; rfl) ?_
     rw [if_pos] at hr
     rotate_left
     ·simp [c4, c5, c6, c7]
     refine ee_seq_condT (by simp [bV, c4, c5, c6, c7]) ?_
     refine ee_assoc ?_
     refine ee_seq_reg rfl (by simp [c4, c5, c6, c7]; rfl) ?_
     refine ee_seq_ret ?_
     obtain rfl := Option.some.inj hr
     simp [FinQ, c4, c5, c6, c7]
    ·skip
     refine ee_seq_reg rfl (by simp [c4, c5, c6, c7]; rfl) ?_
     by_cases c8 : a0.2 < a1
     ·skip
      rw [if_pos] at hr
      rotate_left
      ·simp [c4, c5, c6, c7, c8]
      refine ee_seq_condT (by simp [bV, c4, c5, c6, c7, c8]) ?_
      refine ee_assoc ?_
      refine ee_seq_reg rfl (by simp [c4, c5, c6, c7, c8]; rfl) ?_
      refine ee_seq_ret ?_
      obtain rfl := Option.some.inj hr
      simp [FinQ, c4, c5, c6, c7, c8]
     ·skip
      rw [if_neg] at hr
      rotate_left
      ·simp [c4, c5, c6, c7, c8]
      refine ee_seq_condF (by simp [bV, c4, c5, c6, c7, c8]) ?_
      refine ee_seq_skip ?_
      refine ee_assoc ?_
      refine ee_seq_reg rfl (by simp [c4, c5, c6, c7, c8]; rfl) ?_
      by_cases c9 : IntKind.i64.wrap (a0.2 - a1) < a2
      ·skip
       rw [if_pos c9] at hr
       refine ee_seq_condT (by simp [bV, c4, c5, c6, c7, c8, c9]) ?_
       refine ee_assoc ?_
       refine ee_seq_reg rfl (by simp [c4, c5, c6, c7, c8, c9]; rfl) ?_
       refine ee_seq_ret ?_
       obtain rfl := Option.some.inj hr
       simp [FinQ, c4, c5, c6, c7, c8, c9]
      ·skip
       rw [if_neg c9] at hr
       refine ee_seq_condF (by simp [bV, c4, c5, c6, c7, c8, c9]) ?_
       refine ee_seq_skip ?_
       obtain ⟨y10, hy10, hr⟩ := bs hr
       have ehy10 := G53_eq hy10
       simp only [E53, R53, nf, nfs] at ehy10
       refine ee_seq_reg rfl (by simp [hO, hT53, ehy10, c4, c5, c6, c7, c8, c9]; rfl) ?_
       refine ee_ret ?_
       obtain rfl := Option.some.inj hr
       simp [FinQ, hO, hT53, ehy10, c4, c5, c6, c7, c8, c9]
 ·skip
  rw [if_pos c4] at hr
  refine ee_seq_condT (by simp [bV, c4]) ?_
  refine ee_assoc ?_
  refine ee_seq_reg rfl (by simp [c4]; rfl) ?_
  refine ee_seq_ret ?_
  obtain rfl := Option.some.inj hr
  simp [FinQ, c4]
def kp22 : Keep := fun i => if i = 9 then ⟨[1, 6, 7, 8, 9, 48, 49], [6, 46], []⟩ else ⟨[], [], []⟩
theorem w22 {T : Tab} (hO : T.own = fun _ => []) (hT35 : T 35 = some G35) (hT36 : T 36 = some G36) (a0 : Tapi_Filter) (a1 : Int) (x : (List Int) × Int) (hr : Lgolomb_Decode a0 a1 = some x) : ∃ kp fl n, execFn tt T G kp fl n Try.f22 (E22 (a0, a1)) = some (R22 (a0, a1) x) := by
 simp only [E22, R22]
 refine fnE (kp := kp22) (w := false) body22 (by simp) ?_
 unfold c22
 rw [Try.ntmps22]
 unfold Lgolomb_Decode at hr
 refine ee_seq_reg rfl (by simp []; rfl) ?_
 refine ee_assoc ?_
 by_cases c18 : 4096 < a0.1
 ·skip
  refine ee_seq_reg rfl (by simp [c18]; rfl) ?_
  rw [if_pos] at hr
  rotate_left
  ·simp [c18]
  refine ee_seq_condT (by simp [bV, c18]) ?_
  refine ee_assoc ?_
  refine ee_seq_reg rfl (by simp [c18]; rfl) ?_
  refine ee_seq_ret ?_
  obtain rfl := Option.some.inj hr
  simp [FinQ, c18]
 ·skip
  refine ee_seq_reg rfl (by simp [c18]; rfl) ?_
  by_cases c19 : 200000 < (a0.2.length : Int)
  ·skip
   have c19N := c19
   try simp at c19N
   first | have c19M : (_ = _) = True := eq_true c19N | have c19M := c19N
   rw [if_pos] at hr
   rotate_left
   ·simp [c18, c19, c19M]
   refine ee_seq_condT (by simp [bV, c18, c19, c19M]) ?_
   refine ee_assoc ?_
   refine ee_seq_reg rfl (by simp [c18, c19, c19M]; rfl) ?_
   refine ee_seq_ret ?_
   obtain rfl := Option.some.inj hr
   simp [FinQ, c18, c19, c19M, c19N]
  ·skip
   have c19N := c19
   try simp at c19N
   first | have c19M : (_ = _) = True := eq_true c19N | have c19M := c19N
   rw [if_neg] at hr
   rotate_left
   ·simp [c18, c19, c19M]
   refine ee_seq_condF (by simp [bV, c18, c19, c19M]) ?_
   refine ee_seq_skip ?_
   refine ee_assoc ?_
   by_cases c20 : a0.1 < 0
   ·skip
    refine ee_seq_reg rfl (by simp [c18, c19, c19M, c20]; rfl) ?_
    rw [if_pos] at hr
    rotate_left
    ·simp [c18, c19, c19M, c20]
    refine ee_seq_condT (by simp [bV, c18, c19, c19M, c20]) ?_
    refine ee_assoc ?_
    refine ee_seq_reg rfl (by simp [c18, c19, c19M, c20]; rfl) ?_
    refine ee_seq_ret ?_
    obtain rfl := Option.some.inj hr
    simp [FinQ, c18, c19, c19M, c20, c19N]
   ·skip
    by_cases c21 : a1 < 0
    ·skip
     refine ee_seq_reg rfl (by simp [c18, c19, c19M, c20, c21]; rfl) ?_
     rw [if_pos] at hr
     rotate_left
     ·simp [c18, c19, c19M, c20, c21]
     refine ee_seq_condT (by simp [bV, c18, c19, c19M, c20, c21]) ?_
     refine ee_assoc ?_
     refine ee_seq_reg rfl (by simp [c18, c19, c19M, c20, c21]; rfl) ?_
     refine ee_seq_ret ?_
     obtain rfl := Option.some.inj hr
     simp [FinQ, c18, c19, c19M, c20, c21, c19N]
    ·skip
     refine ee_seq_reg rfl (by simp [c18, c19, c19M, c20, c21]; rfl) ?_
     by_cases c22 : 32 < a1
     ·skip
      rw [if_pos] at hr
      rotate_left
      ·simp [c18, c19, c19M, c20, c21, c22]
      refine ee_seq_condT (by simp [bV, c18, c19, c19M, c20, c21, c22]) ?_
      refine ee_assoc ?_
      refine ee_seq_reg rfl (by simp [c18, c19, c19M, c20, c21, c22]; rfl) ?_
      refine ee_seq_ret ?_
      obtain rfl := Option.some.inj hr
      simp [FinQ, c18, c19, c19M, c20, c21, c22, c19N]
     ·skip
      rw [if_neg] at hr
      rotate_left
      ·simp [c18, c19, c19M, c20, c21, c22]
      refine ee_seq_condF (by simp [bV, c18, c19, c19M, c20, c21, c22]) ?_
      refine ee_seq_skip ?_
      refine ee_seq_reg rfl (by simp [c18, c19, c19M, c20, c21, c22]; rfl) ?_
      obtain ⟨_, u23, hr⟩ := bs hr
      obtain ⟨u23_0, u23_1⟩ := chk_some u23
      have mf24 : 0 ≤ (a0.1).toNat := by omega
      have mf25 : (a0.1).toNat * 8 ≤ 140737488355328 := by omega
      have mf26 : (a0.1).toNat ≤ 9223372036854775807 := by omega
      have mf27 : 0 ≤ a0.1 := by omega
      refine ee_seq_reg rfl (by simp [u23_0, u23_1, mf24, mf25, mf26, mf27, c18, c19, c19M, c20, c21, c22]; rfl) ?_
      refine ee_seq_reg rfl (by simp [c18, c19, c19M, c20, c21, c22]; rfl) ?_
      refine ee_assoc ?_
      refine ee_seq_reg rfl (by simp [c18, c19, c19M, c20, c21, c22]; rfl) ?_
      refine ee_seq_block ?_
      refine ee_loop (kq := ⟨[1, 6, 7, 8, 9, 48, 49], [6, 46], []⟩) (H := fun (s : Int × Int × Int × (List Int)) => match s with | (p9, p10, p11, p12) => (⟨(und 1 ++ ([.one (.v (.int .i64 a1))] ++ (und 4 ++ ([.ptr 6 0 0 0 2, .one (.ms 46 0 0 (p12.length) 1), .one (.v (.int .u64 p9)), .one (.v (.int .i64 p10))] ++ (und 38 ++ ([.one (.v (.int .i64 a0.1)), .one (.v (.int .i64 p11))] ++ (und 46)))))) : List PV), ([(6, ⟨0, 2, [[.slice .no (intsR .u8 a0.2), .v (.int .i64 (IntKind.i64.wrap (8 * (a0.2.length : Int))))]], false, false⟩), (46, ⟨0, 1, intsR .u64 p12, false, true⟩)] : Boxes)⟩ : ASt)) (by kernel_rfl) hr (by simp [und, List.replicate, c18, c19, c19M, c20, c21, c22]) ?_
      rintro ⟨p9, p10, p11, p12⟩ x35r hr35
      simp only [Lgolomb_Decode_s1] at hr35
      unfold b22_1
      simp only [und, List.replicate, List.cons_append, List.nil_append]
      refine ee_seq_reg rfl (by simp [c18, c19, c19M, c20, c21, c22]; rfl) ?_
      by_cases c36 : p11 < a0.1
      ·skip
       rw [if_pos] at hr35
       rotate_left
       ·simp [c18, c19, c19M, c20, c21, c22, c36]
       refine ee_seq_condT (by simp [bV, c18, c19, c19M, c20, c21, c22, c36]) ?_
       refine ee_seq_skip ?_
       refine ee_seq_block ?_
       obtain ⟨y37, hy37, hr35⟩ := bs hr35
       have ehy37 := G35_eq hy37
       simp only [E35, R35, nf, nfs] at ehy37
       refine ee_seq_reg rfl (by simp [hO, hT35, ehy37, c18, c19, c19M, c20, c21, c22, c36]; rfl) ?_
       refine ee_assoc ?_
       refine ee_seq_reg rfl (by simp [c18, c19, c19M, c20, c21, c22, c36]; rfl) ?_
       by_cases c38 : y37.2.2 = 0
       ·skip
        rw [if_neg (not_not_intro c38)] at hr35
        refine ee_seq_condF (by simp [bV, c18, c19, c19M, c20, c21, c22, c36, eq_true c38]) ?_
        refine ee_seq_skip ?_
        refine ee_assoc ?_
        refine ee_seq_reg rfl (by simp [c18, c19, c19M, c20, c21, c22, c36, eq_true c38]; rfl) ?_
        by_cases c39 : IntKind.u64.wrap (p9 + y37.1) < p9
        ·skip
         rw [if_pos] at hr35
         rotate_left
         ·simp [c18, c19, c19M, c20, c21, c22, c36, eq_true c38, c39]
         refine ee_seq_condT (by simp [bV, c18, c19, c19M, c20, c21, c22, c36, eq_true c38, c39]) ?_
         refine ee_assoc ?_
         refine ee_seq_reg rfl (by simp [c18, c19, c19M, c20, c21, c22, c36, eq_true c38, c39]; rfl) ?_
         refine ee_seq_ret ?_
         obtain rfl := Option.some.inj hr35
         simp only [pq, reduceCtorEq]
         rintro rfl
         simp [FinQ, c18, c19, c19M, c20, c21, c22, c36, eq_true c38, c39, c19N]
        ·skip
         rw [if_neg] at hr35
         rotate_left
         ·simp [c18, c19, c19M, c20, c21, c22, c36, eq_true c38, c39]
         refine ee_seq_condF (by simp [bV, c18, c19, c19M, c20, c21, c22, c36, eq_true c38, c39]) ?_
         refine ee_seq_skip ?_
         refine ee_seq_reg rfl (by simp [c18, c19, c19M, c20, c21, c22, c36, eq_true c38, c39]; rfl) ?_
         obtain ⟨_, u40, hr35⟩ := bs hr35
         have u40_0 := chk_some u40
         have n1_u40_0 : (p12.length + 1) * 8 ≤ 140737488355328 := by omega
         have n2_u40_0 : p12.length + 1 ≤ 9223372036854775807 := by omega
         refine ee_reg rfl (by simp [n1_u40_0, n2_u40_0, c18, c19, c19M, c20, c21, c22, c36, eq_true c38, c39]; rfl) ?_
         simp only [pq, reduceCtorEq]
         refine ee_reg rfl (by simp [c18, c19, c19M, c20, c21, c22, c36, eq_true c38, c39]; rfl) ?_
         obtain rfl := Option.some.inj hr35
         simp only [pq, reduceCtorEq]
         simp [und, List.replicate, Nat.add_assoc, c18, c19, c19M, c20, c21, c22, c36, eq_true c38, c39]
       ·skip
        rw [if_pos c38] at hr35
        refine ee_seq_condT (by simp [bV, c18, c19, c19M, c20, c21, c22, c36, c38]) ?_
        refine ee_assoc ?_
        refine ee_seq_reg rfl (by simp [c18, c19, c19M, c20, c21, c22, c36, c38]; rfl) ?_
        refine ee_seq_ret ?_
        obtain rfl := Option.some.inj hr35
        simp only [pq, reduceCtorEq]
        rintro rfl
        simp [FinQ, c18, c19, c19M, c20, c21, c22, c36, c38, c19N]
      ·skip
       rw [if_neg] at hr35
       rotate_left
       ·simp [c18, c19, c19M, c20, c21, c22, c36]
       refine ee_seq_condF (by simp [bV, c18, c19, c19M, c20, c21, c22, c36]) ?_
       refine ee_seq_exit ?_
       obtain ⟨r41, q41, rfl⟩ := ms hr35
       simp only [pq, reduceCtorEq]
       rintro rfl
       try simp only [pq, reduceCtorEq]
       unfold Lgolomb_Decode_k1 at q41
       refine ee_seq_reg rfl (by simp [c18, c19, c19M, c20, c21, c22, c36]; rfl) ?_
       refine ee_assoc ?_
       refine ee_seq_reg rfl (by simp [c18, c19, c19M, c20, c21, c22, c36]; rfl) ?_
       by_cases c42 : 8 ≤ IntKind.i64.wrap ((IntKind.i64.wrap (8 * (a0.2.length : Int))) - p10)
       ·skip
        have c42N := c42
        try simp at c42N
        first | have c42M : (_ = _) = True := eq_true c42N | have c42M := c42N
        rw [if_pos c42] at q41
        refine ee_seq_condT (by simp [bV, c18, c19, c19M, c20, c21, c22, c36, c42, c42M]) ?_
        refine ee_assoc ?_
        refine ee_seq_reg rfl (by simp [c18, c19, c19M, c20, c21, c22, c36, c42, c42M]; rfl) ?_
        refine ee_seq_ret ?_
        obtain rfl := Option.some.inj q41
        simp [FinQ, c18, c19, c19M, c20, c21, c22, c36, c42, c42M, c19N, c42N]
       ·skip
        have c42N := c42
        try simp at c42N
        first | have c42M : (_ = _) = True := eq_true c42N | have c42M := c42N
        rw [if_neg c42] at q41
        refine ee_seq_condF (by simp [bV, c18, c19, c19M, c20, c21, c22, c36, c42, c42M]) ?_
        refine ee_seq_skip ?_
        obtain ⟨y43, hy43, q41⟩ := bs q41
        have ehy43 := G36_eq hy43
        simp only [E36, R36, nf, nfs] at ehy43
        refine ee_seq_reg rfl (by simp [hO, hT36, ehy43, c18, c19, c19M, c20, c21, c22, c36, c42, c42M]; rfl) ?_
        refine ee_assoc ?_
        refine ee_seq_reg rfl (by simp [c18, c19, c19M, c20, c21, c22, c36, c42, c42M]; rfl) ?_
        by_cases c44 : y43.2.2 = 0
        ·skip
         rw [if_neg (not_not_intro c44)] at q41
         refine ee_seq_condF (by simp [bV, c18, c19, c19M, c20, c21, c22, c36, c42, c42M, eq_true c44]) ?_
         refine ee_seq_skip ?_
         refine ee_assoc ?_
         refine ee_seq_reg rfl (by simp [c18, c19, c19M, c20, c21, c22, c36, c42, c42M, eq_true c44]; rfl) ?_
         by_cases c45 : y43.1 = 0
         ·skip
          rw [if_neg (not_not_intro c45)] at q41
          refine ee_seq_condF (by simp [bV, c18, c19, c19M, c20, c21, c22, c36, c42, c42M, eq_true c44, eq_true c45]) ?_
          refine ee_seq_skip ?_
          refine ee_seq_reg rfl (by simp [c18, c19, c19M, c20, c21, c22, c36, c42, c42M, eq_true c44, eq_true c45]; rfl) ?_
          refine ee_ret ?_
          obtain rfl := Option.some.inj q41
          simp [FinQ, c18, c19, c19M, c20, c21, c22, c36, c42, c42M, eq_true c44, eq_true c45, c19N, c42N]
         ·skip
          rw [if_pos c45] at q41
          refine ee_seq_condT (by simp [bV, c18, c19, c19M, c20, c21, c22, c36, c42, c42M, eq_true c44, c45]) ?_
          refine ee_assoc ?_
          refine ee_seq_reg rfl (by simp [c18, c19, c19M, c20, c21, c22, c36, c42, c42M, eq_true c44, c45]; rfl) ?_
          refine ee_seq_ret ?_
          obtain rfl := Option.some.inj q41
          simp [FinQ, c18, c19, c19M, c20, c21, c22, c36, c42, c42M, eq_true c44, c45, c19N, c42N]
        ·skip
         rw [if_pos c44] at q41
         refine ee_seq_condT (by simp [bV, c18, c19, c19M, c20, c21, c22, c36, c42, c42M, c44]) ?_
         refine ee_assoc ?_
         refine ee_seq_reg rfl (by simp [c18, c19, c19M, c20, c21, c22, c36, c42, c42M, c44]; rfl) ?_
         refine ee_seq_ret ?_
         obtain rfl := Option.some.inj q41
         simp [FinQ, c18, c19, c19M, c20, c21, c22, c36, c42, c42M, c44, c19N, c42N]
def kp24 : Keep := fun i => if i = 9 then ⟨[12, 15, 39, 40, 41], [], []⟩ else if i = 1000013 then ⟨[12, 15, 17, 39, 40, 41], [], []⟩ else if i = 11 then ⟨[12, 15, 17, 39, 40, 41], [], []⟩ else ⟨[], [], []⟩
theorem w24 {T : Tab} (hO : T.own = fun _ => []) (hT19 : T 19 = some G19) (hT22 : T 22 = some G22) (a0 : (Arr 2)) (a1 : Tapi_Filter) (a2 : (List (List Int))) (a3 : Int) (a4 : Int) (x : Bool × Int) (hr : Lgolomb_Match a0 a1 a2 a3 a4 = some x) : ∃ kp fl n, execFn tt T G kp fl n Try.f24 (E24 (a0, a1, a2, a3, a4)) = some (R24 (a0, a1, a2, a3, a4) x) := by
 simp only [E24, R24]
 refine fnE (kp := kp24) (w := false) body24 (by simp) ?_
 unfold c24
 rw [Try.ntmps24]
 unfold Lgolomb_Match at hr
 refine ee_seq_reg rfl (by simp []; rfl) ?_
 obtain ⟨y53, hy53, hr⟩ := bs hr
 have ehy53 := G22_eq hy53
 simp only [E22, R22, nf, nfs] at ehy53
 refine ee_seq_reg rfl (by simp [hO, hT22, ehy53]; rfl) ?_
 refine ee_assoc ?_
 refine ee_seq_reg rfl (by simp []; rfl) ?_
 by_cases c54 : y53.2 = 0
 ·skip
  rw [if_neg (not_not_intro c54)] at hr
  refine ee_seq_condF (by simp [bV, eq_true c54]) ?_
  refine ee_seq_skip ?_
  obtain ⟨y55, hy55, hr⟩ := bs hr
  have ehy55 := G19_eq hy55
  simp only [E19, R19, nf, nfs] at ehy55
  refine ee_seq_reg rfl (by simp [hO, hT19, ehy55, eq_true c54]; rfl) ?_
  refine ee_assoc ?_
  refine ee_seq_reg rfl (by simp [eq_true c54]; rfl) ?_
  by_cases c56 : y55.2 = 0
  ·skip
   rw [if_neg (not_not_intro c56)] at hr
   refine ee_seq_condF (by simp [bV, eq_true c54, eq_true c56]) ?_
   refine ee_seq_skip ?_
   refine ee_seq_reg rfl (by simp [eq_true c54, eq_true c56]; rfl) ?_
   refine ee_assoc ?_
   refine ee_seq_reg rfl (by simp [eq_true c54, eq_true c56]; rfl) ?_
   refine ee_seq_block ?_
   refine ee_loop (kq := ⟨[12, 15, 39, 40, 41], [], []⟩) (H := fun (s : Int × Int) => match s with | (p27, p28) => (⟨(und 12 ++ ([.one (.slice .no (intsR .u64 y53.1))] ++ (und 2 ++ ([.one (.v (.int .i64 p27))] ++ (und 23 ++ ([.one (.slice .no (intsR .u64 y55.1)), .one (.v (.int .i64 (y55.1.length : Int))), .one (.v (.int .i64 p28))] ++ (und 30)))))) : List PV), ([] : Boxes)⟩ : ASt)) (by kernel_rfl) hr (by simp [und, List.replicate, eq_true c54, eq_true c56]) ?_
   rintro ⟨p27, p28⟩ x83r hr83
   simp only [Lgolomb_Match_s1] at hr83
   unfold b24_1
   simp only [und, List.replicate, List.cons_append, List.nil_append]
   refine ee_seq_reg rfl (by simp [eq_true c54, eq_true c56]; rfl) ?_
   by_cases c84 : p28 < (y55.1.length : Int)
   ·skip
    have c84N := c84
    try simp at c84N
    first | have c84M : (_ = _) = True := eq_true c84N | have c84M := c84N
    rw [if_pos] at hr83
    rotate_left
    ·simp [eq_true c54, eq_true c56, c84, c84M]
    refine ee_seq_condT (by simp [bV, eq_true c54, eq_true c56, c84, c84M]) ?_
    refine ee_seq_skip ?_
    refine ee_seq_block ?_
    obtain ⟨x85, hx85, hr83⟩ := bs hr83
    obtain ⟨hx85a, hx85b⟩ := idx_some hx85
    have hx85c := getE_of hx85b
    refine ee_seq_reg rfl (by simp [hx85a, hx85b, hx85c, eq_true c54, eq_true c56, c84, c84M]; rfl) ?_
    refine ee_seq_block ?_
    refine ee_J hr83 (.exit 2) (fun (s : Int) => match s with | p46 => (⟨(und 12 ++ ([.one (.slice .no (intsR .u64 y53.1))] ++ (und 2 ++ ([.one (.v (.int .i64 p46))] ++ (und 1 ++ ([.one (.v (.int .u64 x85))] ++ (und 21 ++ ([.one (.slice .no (intsR .u64 y55.1)), .one (.v (.int .i64 (y55.1.length : Int))), .one (.v (.int .i64 p28))] ++ (und 30)))))))) : List PV), ([] : Boxes)⟩ : ASt)) (fun (s : Int) => match s with | p46 => Lgolomb_Match_k2 p46 y53 x85 p28) ?_ ?_
    ·skip
     rintro p46 hk94
     change Lgolomb_Match_k2 p46 y53 x85 p28 = _ at hk94
     simp only [pq, reduceCtorEq]
     simp only [und, List.replicate, List.cons_append, List.nil_append]
     unfold Lgolomb_Match_k2 at hk94
     by_cases c95 : p46 < (y53.1.length : Int)
     ·skip
      have c95N := c95
      try simp at c95N
      first | have c95M : (_ = _) = True := eq_true c95N | have c95M := c95N
      rw [if_pos] at hk94
      rotate_left
      ·simp [eq_true c54, eq_true c56, c84, c84M, c95, c95M]
      obtain ⟨z96, hz96, hk94⟩ := bs hk94
      obtain ⟨x97, hx97, hz96⟩ := bs hz96
      obtain ⟨hx97a, hx97b⟩ := idx_some hx97
      have hx97c := getE_of hx97b
      obtain rfl := Option.some.inj hz96
      refine ee_seq_regJ rfl (kq := ⟨[12, 15, 17, 39, 40, 41], [], []⟩) rfl (by simp [joinSt, hx97a, hx97b, hx97c, eq_true c54, eq_true c56, c84, c84M, c95, c95M]; rfl) (by simp [hx97a, hx97b, hx97c, eq_true c54, eq_true c56, c84, c84M, c95, c95M]; rfl) ?_
      by_cases c98 : x97 = x85
      ·skip
       rw [if_pos] at hk94
       rotate_left
       ·simp [eq_true c54, eq_true c56, c84, c84M, c95, c95M, eq_true c98]
       refine ee_condT (by simp [bV, eq_true c54, eq_true c56, c84, c84M, c95, c95M, eq_true c98]) ?_
       refine ee_seq_reg rfl (by simp [eq_true c54, eq_true c56, c84, c84M, c95, c95M, eq_true c98]; rfl) ?_
       refine ee_ret ?_
       obtain rfl := Option.some.inj hk94
       simp only [pq, reduceCtorEq]
       rintro rfl
       simp [FinQ, eq_true c54, eq_true c56, c84, c84M, c95, c95M, eq_true c98, c84N, c95N]
      ·skip
       rw [if_neg] at hk94
       rotate_left
       ·simp [eq_true c54, eq_true c56, c84, c84M, c95, c95M, c98]
       refine ee_condF (by simp [bV, eq_true c54, eq_true c56, c84, c84M, c95, c95M, c98]) ?_
       refine ee_skip ?_
       simp only [pq, reduceCtorEq]
       refine ee_reg rfl (by simp [eq_true c54, eq_true c56, c84, c84M, c95, c95M, c98]; rfl) ?_
       obtain rfl := Option.some.inj hk94
       simp only [pq, reduceCtorEq]
       simp [und, List.replicate, Nat.add_assoc, eq_true c54, eq_true c56, c84, c84M, c95, c95M, c98]
     ·skip
      have c95N := c95
      try simp at c95N
      first | have c95M : (_ = _) = True := eq_true c95N | have c95M := c95N
      rw [if_neg] at hk94
      rotate_left
      ·simp [eq_true c54, eq_true c56, c84, c84M, c95, c95M]
      obtain ⟨z99, hz99, hk94⟩ := bs hk94
      obtain rfl := Option.some.inj hz99
      refine ee_seq_regJ rfl (kq := ⟨[12, 15, 17, 39, 40, 41], [], []⟩) rfl (by simp [joinSt, eq_true c54, eq_true c56, c84, c84M, c95, c95M]; rfl) (by simp [eq_true c54, eq_true c56, c84, c84M, c95, c95M]; rfl) ?_
      rw [if_neg] at hk94
      rotate_left
      ·simp [eq_true c54, eq_true c56, c84, c84M, c95, c95M]
      refine ee_condF (by simp [bV, eq_true c54, eq_true c56, c84, c84M, c95, c95M]) ?_
      refine ee_skip ?_
      simp only [pq, reduceCtorEq]
      refine ee_reg rfl (by simp [eq_true c54, eq_true c56, c84, c84M, c95, c95M]; rfl) ?_
      obtain rfl := Option.some.inj hk94
      simp only [pq, reduceCtorEq]
      simp [und, List.replicate, Nat.add_assoc, eq_true c54, eq_true c56, c84, c84M, c95, c95M]
    ·skip
     intro J94
     simp only [pq, reduceCtorEq] at J94
     refine ee_loop (kq := ⟨[12, 15, 17, 39, 40, 41], [], []⟩) (H := fun (s : Int) => match s with | p46 => (⟨(und 12 ++ ([.one (.slice .no (intsR .u64 y53.1))] ++ (und 2 ++ ([.one (.v (.int .i64 p46))] ++ (und 1 ++ ([.one (.v (.int .u64 x85))] ++ (und 21 ++ ([.one (.slice .no (intsR .u64 y55.1)), .one (.v (.int .i64 (y55.1.length : Int))), .one (.v (.int .i64 p28))] ++ (und 30)))))))) : List PV), ([] : Boxes)⟩ : ASt)) (by kernel_rfl) hr83 (by simp [und, List.replicate, eq_true c54, eq_true c56, c84, c84M]) ?_
     rintro p46 x100r hr100
     simp only [Lgolomb_Match_s2] at hr100
     unfold b24_2
     simp only [und, List.replicate, List.cons_append, List.nil_append]
     refine ee_assoc ?_
     by_cases c101 : p46 < (y53.1.length : Int)
     ·skip
      have c101N := c101
      try simp at c101N
      first | have c101M : (_ = _) = True := eq_true c101N | have c101M := c101N
      rw [if_pos] at hr100
      rotate_left
      ·simp [eq_true c54, eq_true c56, c84, c84M, c101, c101M]
      obtain ⟨z102, hz102, hr100⟩ := bs hr100
      obtain ⟨x103, hx103, hz102⟩ := bs hz102
      obtain ⟨hx103a, hx103b⟩ := idx_some hx103
      have hx103c := getE_of hx103b
      obtain rfl := Option.some.inj hz102
      refine ee_seq_reg rfl (by simp [hx103a, hx103b, hx103c, eq_true c54, eq_true c56, c84, c84M, c101, c101M]; rfl) ?_
      by_cases c104 : x103 < x85
      ·skip
       rw [if_pos] at hr100
       rotate_left
       ·simp [eq_true c54, eq_true c56, c84, c84M, c101, c101M, c104]
       refine ee_seq_condT (by simp [bV, eq_true c54, eq_true c56, c84, c84M, c101, c101M, c104]) ?_
       refine ee_seq_skip ?_
       refine ee_block ?_
       refine ee_reg rfl (by simp [eq_true c54, eq_true c56, c84, c84M, c101, c101M, c104]; rfl) ?_
       obtain rfl := Option.some.inj hr100
       simp only [pq, reduceCtorEq]
       simp [und, List.replicate, Nat.add_assoc, eq_true c54, eq_true c56, c84, c84M, c101, c101M, c104]
      ·skip
       rw [if_neg] at hr100
       rotate_left
       ·simp [eq_true c54, eq_true c56, c84, c84M, c101, c101M, c104]
       refine ee_seq_condF (by simp [bV, eq_true c54, eq_true c56, c84, c84M, c101, c101M, c104]) ?_
       refine ee_seq_exit ?_
       obtain ⟨r105, q105, rfl⟩ := ms hr100
       simp only [pq, reduceCtorEq]
       rintro rfl
       try simp only [pq, reduceCtorEq]
       exact ee_join (key := 1000013) (kq := ⟨[12, 15, 17, 39, 40, 41], [], []⟩) rfl rfl rfl (by simp [und, List.replicate, eq_true c54, eq_true c56, c84, c84M, c101, c101M, c104]) (J94 p46 q105)
     ·skip
      have c101N := c101
      try simp at c101N
      first | have c101M : (_ = _) = True := eq_true c101N | have c101M := c101N
      rw [if_neg] at hr100
      rotate_left
      ·simp [eq_true c54, eq_true c56, c84, c84M, c101, c101M]
      obtain ⟨z106, hz106, hr100⟩ := bs hr100
      obtain rfl := Option.some.inj hz106
      refine ee_seq_reg rfl (by simp [eq_true c54, eq_true c56, c84, c84M, c101, c101M]; rfl) ?_
      rw [if_neg] at hr100
      rotate_left
      ·simp [eq_true c54, eq_true c56, c84, c84M, c101, c101M]
      refine ee_seq_condF (by simp [bV, eq_true c54, eq_true c56, c84, c84M, c101, c101M]) ?_
      refine ee_seq_exit ?_
      obtain ⟨r107, q107, rfl⟩ := ms hr100
      simp only [pq, reduceCtorEq]
      rintro rfl
      try simp only [pq, reduceCtorEq]
      exact ee_join (key := 1000013) (kq := ⟨[12, 15, 17, 39, 40, 41], [], []⟩) rfl rfl rfl (by simp [und, List.replicate, eq_true c54, eq_true c56, c84, c84M, c101, c101M]) (J94 p46 q107)
   ·skip
    have c84N := c84
    try simp at c84N
    first | have c84M : (_ = _) = True := eq_true c84N | have c84M := c84N
    rw [if_neg] at hr83
    rotate_left
    ·simp [eq_true c54, eq_true c56, c84, c84M]
    refine ee_seq_condF (by simp [bV, eq_true c54, eq_true c56, c84, c84M]) ?_
    refine ee_seq_exit ?_
    obtain ⟨r108, q108, rfl⟩ := ms hr83
    simp only [pq, reduceCtorEq]
    rintro rfl
    try simp only [pq, reduceCtorEq]
    unfold Lgolomb_Match_k1 at q108
    refine ee_seq_reg rfl (by simp [eq_true c54, eq_true c56, c84, c84M]; rfl) ?_
    refine ee_ret ?_
    obtain rfl := Option.some.inj q108
    simp [FinQ, eq_true c54, eq_true c56, c84, c84M, c84N]
  ·skip
   rw [if_pos c56] at hr
   refine ee_seq_condT (by simp [bV, eq_true c54, c56]) ?_
   refine ee_assoc ?_
   refine ee_seq_reg rfl (by simp [eq_true c54, c56]; rfl) ?_
   refine ee_seq_ret ?_
   obtain rfl := Option.some.inj hr
   simp [FinQ, eq_true c54, c56]
 ·skip
  rw [if_pos c54] at hr
  refine ee_seq_condT (by simp [bV, c54]) ?_
  refine ee_assoc ?_
  refine ee_seq_reg rfl (by simp [c54]; rfl) ?_
  refine ee_seq_ret ?_
  obtain rfl := Option.some.inj hr
  simp [FinQ, c54]
end Go.Proofs.Ytmjbklblgpnagaa
