import Derived.Test.YtmjbklblgpnagaaLfK
import Derived.Test.YtmjbklblgpnagaaCode
import Derived.Test.YtmjbklblgpnagaaBl
namespace Go.Proofs.Ytmjbklblgpnagaa
open Go.RowKit
open Go.Av
open Go.Lc
set_option maxRecDepth 100000
set_option linter.unusedSimpArgs false
set_option linter.unusedVariables false
set_option maxHeartbeats 4000000
variable {G : Glob}
def kp36 : Keep := fun i => ⟨[], [], []⟩
theorem w36 {T : Tab} (hO : T.own = fun _ => []) (hT40 : T 40 = some G40) (hT53 : T 53 = some G53) (a0 : Tapi_Bits) (a1 : Int) (a2 : Int) (x : Int × Int × Int) (hr : Lbits_Read a0 a1 a2 = some x) : ∃ kp fl n, execFn tt T G kp fl n Try.f36 (E36 (a0, a1, a2)) = some (R36 (a0, a1, a2) x) := by
 simp only [E36, R36]
 refine fnE (kp := kp36) (w := false) body36 (by simp) ?_
 unfold c36
 rw [Try.ntmps36]
 unfold Lbits_Read at hr
 refine ee_seq_reg rfl (by simp []; rfl) ?_
 refine ee_assoc ?_
 obtain ⟨y3, hy3, hr⟩ := bs hr
 have ehy3 := G40_eq hy3
 simp only [E40, R40, nf, nfs] at ehy3
 refine ee_seq_reg rfl (by simp [hO, hT40, ehy3]; rfl) ?_
 by_cases c4 : y3 = true
 ·skip
  rw [if_neg (not_not_intro c4)] at hr
  refine ee_seq_condF (by simp [bV, c4]) ?_
  refine ee_seq_skip ?_
  refine ee_assoc ?_
  by_cases c5 : a2 < 0
  ·skip
   refine ee_seq_reg rfl (by simp [c4, c5]; rfl) ?_
   rw [if_pos] at hr
   rotate_left
   ·simp [c4, c5]
   refine ee_seq_condT (by simp [bV, c4, c5]) ?_
   refine ee_assoc ?_
   refine ee_seq_reg rfl (by simp [c4, c5]; rfl) ?_
   refine ee_seq_ret ?_
   obtain rfl := Option.some.inj hr
   simp [FinQ, c4, c5]
  ·skip
   by_cases c6 : 64 < a2
   ·skip
    refine ee_seq_reg rfl (by simp [c4, c5, c6]; rfl) ?_
    rw [if_pos] at hr
    rotate_left
    ·simp [c4, c5, c6]
    refine ee_seq_condT (by simp [bV, c4, c5, c6]) ?_
    refine ee_assoc ?_
    refine ee_seq_reg rfl (by simp [c4, c5, c6]; rfl) ?_
    refine ee_seq_ret ?_
    obtain rfl := Option.some.inj hr
    simp [FinQ, c4, c5, c6]
   ·skip
    by_cases c7 : a1 < 0
    ·skip
     refine ee_seq_reg rfl (by simp [c4, c5, c6, c7]; rfl) ?_
     rw [if_pos] at hr
     rotate_left
     ·simp [c4, c5, c6, c7]
     refine ee_seq_condT (by simp [bV, c4, c5, c6, c7]) ?_
     refine ee_assoc ?_
     refine ee_seq_reg rfl (by simp [c4, c5, c6, c7]; rfl) ?_
     refine ee_seq_ret ?_
     obtain rfl := Option.some.inj hr
     simp [FinQ, c4, c5, c6, c7]
    ·skip
     refine ee_seq_reg rfl (by simp [c4, c5, c6, c7]; rfl) ?_
     by_cases c8 : a0.2 < a1
     ·skip
      rw [if_pos] at hr
      rotate_left
      ·simp [c4, c5, c6, c7, c8]
      refine ee_seq_condT (by simp [bV, c4, c5, c6, c7, c8]) ?_
      refine ee_assoc ?_
      refine ee_seq_reg rfl (by simp [c4, c5, c6, c7, c8]; rfl) ?_
      refine ee_seq_ret ?_
      obtain rfl := Option.some.inj hr
      simp [FinQ, c4, c5, c6, c7, c8]
     ·skip
      rw [if_neg] at hr
      rotate_left
      ·simp [c4, c5, c6, c7, c8]
      refine ee_seq_condF (by simp [bV, c4, c5, c6, c7, c8]) ?_
      refine ee_seq_skip ?_
      refine ee_assoc ?_
      refine ee_seq_reg rfl (by simp [c4, c5, c6, c7, c8]; rfl) ?_
      by_cases c9 : IntKind.i64.wrap (a0.2 - a1) < a2
      ·skip
       rw [if_pos c9] at hr
       refine ee_seq_condT (by simp [bV, c4, c5, c6, c7, c8, c9]) ?_
       refine ee_assoc ?_
       refine ee_seq_reg rfl (by simp [c4, c5, c6, c7, c8, c9]; rfl) ?_
       refine ee_seq_ret ?_
       obtain rfl := Option.some.inj hr
       simp [FinQ, c4, c5, c6, c7, c8, c9]
      ·skip
       rw [if_neg c9] at hr
       refine ee_seq_condF (by simp [bV, c4, c5, c6, c7, c8, c9]) ?_
       refine ee_seq_skip ?_
       obtain ⟨y10, hy10, hr⟩ := bs hr
       have ehy10 := G53_eq hy10
       simp only [E53, R53, nf, nfs] at ehy10
       refine ee_seq_reg rfl (by simp [hO, hT53, ehy10, c4, c5, c6, c7, c8, c9]; rfl) ?_
       refine ee_ret ?_
       obtain rfl := Option.some.inj hr
       simp [FinQ, hO, hT53, ehy10, c4, c5, c6, c7, c8, c9]
 ·skip
  rw [if_pos c4] at hr
  refine ee_seq_condT (by simp [bV, c4]) ?_
  refine ee_assoc ?_
  refine ee_seq_reg rfl (by simp [c4]; rfl) ?_
  refine ee_seq_ret ?_
  obtain rfl := Option.some.inj hr
  simp [FinQ, c4]
def kp22 : Keep := fun i => if i = 9 then ⟨[1, 6, 7, 8, 9, 48, 49], [6, 46], []⟩ else ⟨[], [], []⟩
theorem w22 {T : Tab} (hO : T.own = fun _ => []) (hT35 : T 35 = some G35) (hT36 : T 36 = some G36) (a0 : Tapi_Filter) (a1 : Int) (x : (List Int) × Int) (hr : Lgolomb_Decode a0 a1 = some x) : ∃ kp fl n, execFn tt T G kp fl n Try.f22 (E22 (a0, a1)) = some (R22 (a0, a1) x) := by
 simp only [E22, R22]
 refine fnE (kp := kp22) (w := false) body22 (by simp) ?_
 unfold c22
 rw [Try.ntmps22]
 unfold Lgolomb_Decode at hr
 refine ee_seq_reg rfl (by simp []; rfl) ?_
 refine ee_assoc ?_
 by_cases c18 : 4096 < a0.1
 ·skip
  refine ee_seq_reg rfl (by simp [c18]; rfl) ?_
  rw [if_pos] at hr
  rotate_left
  ·simp [c18]
  refine ee_seq_condT (by simp [bV, c18]) ?_
  refine ee_assoc ?_
  refine ee_seq_reg rfl (by simp [c18]; rfl) ?_
  refine ee_seq_ret ?_
  obtain rfl := Option.some.inj hr
  simp [FinQ, c18]
 ·skip
  refine ee_seq_reg rfl (by simp [c18]; rfl) ?_
  by_cases c19 : 200000 < (a0.2.length : Int)
  ·skip
   have c19N := c19
   try simp at c19N
   first | have c19M : (_ = _) = True := eq_true c19N | have c19M := c19N
   rw [if_pos] at hr
   rotate_left
   ·simp [c18, c19, c19M]
   refine ee_seq_condT (by simp [bV, c18, c19, c19M]) ?_
   refine ee_assoc ?_
   refine ee_seq_reg rfl (by simp [c18, c19, c19M]; rfl) ?_
   refine ee_seq_ret ?_
   obtain rfl := Option.some.inj hr
   simp [FinQ, c18, c19, c19M, c19N]
  ·skip
   have c19N := c19
   try simp at c19N
   first | have c19M : (_ = _) = True := eq_true c19N | have c19M := c19N
   rw [if_neg] at hr
   rotate_left
   ·simp [c18, c19, c19M]
   refine ee_seq_condF (by simp [bV, c18, c19, c19M]) ?_
   refine ee_seq_skip ?_
   refine ee_assoc ?_
   by_cases c20 : a0.1 < 0
   ·skip
    refine ee_seq_reg rfl (by simp [c18, c19, c19M, c20]; rfl) ?_
    rw [if_pos] at hr
    rotate_left
    ·simp [c18, c19, c19M, c20]
    refine ee_seq_condT (by simp [bV, c18, c19, c19M, c20]) ?_
    refine ee_assoc ?_
    refine ee_seq_reg rfl (by simp [c18, c19, c19M, c20]; rfl) ?_
    refine ee_seq_ret ?_
    obtain rfl := Option.some.inj hr
    simp [FinQ, c18, c19, c19M, c20, c19N]
   ·skip
    by_cases c21 : a1 < 0
    ·skip
     refine ee_seq_reg rfl (by simp [c18, c19, c19M, c20, c21]; rfl) ?_
     rw [if_pos] at hr
     rotate_left
     ·simp [c18, c19, c19M, c20, c21]
     refine ee_seq_condT (by simp [bV, c18, c19, c19M, c20, c21]) ?_
     refine ee_assoc ?_
     refine ee_seq_reg rfl (by simp [c18, c19, c19M, c20, c21]; rfl) ?_
     refine ee_seq_ret ?_
     obtain rfl := Option.some.inj hr
     simp [FinQ, c18, c19, c19M, c20, c21, c19N]
    ·skip
     refine ee_seq_reg rfl (by simp [c18, c19, c19M, c20, c21]; rfl) ?_
     by_cases c22 : 32 < a1
     ·skip
      rw [if_pos] at hr
      rotate_left
      ·simp [c18, c19, c19M, c20, c21, c22]
      refine ee_seq_condT (by simp [bV, c18, c19, c19M, c20, c21, c22]) ?_
      refine ee_assoc ?_
      refine ee_seq_reg rfl (by simp [c18, c19, c19M, c20, c21, c22]; rfl) ?_
      refine ee_seq_ret ?_
      obtain rfl := Option.some.inj hr
      simp [FinQ, c18, c19, c19M, c20, c21, c22, c19N]
     ·skip
      rw [if_neg] at hr
      rotate_left
      ·simp [c18, c19, c19M, c20, c21, c22]
      refine ee_seq_condF (by simp [bV, c18, c19, c19M, c20, c21, c22]) ?_
      refine ee_seq_skip ?_
      refine ee_seq_reg rfl (by simp [c18, c19, c19M, c20, c21, c22]; rfl) ?_
      obtain ⟨_, u23, hr⟩ := bs hr
      obtain ⟨u23_0, u23_1⟩ := chk_some u23
      have mf24 : 0 ≤ (a0.1).toNat := by omega
      have mf25 : (a0.1).toNat * 8 ≤ 140737488355328 := by omega
      have mf26 : (a0.1).toNat ≤ 9223372036854775807 := by omega
      have mf27 : 0 ≤ a0.1 := by omega
      refine ee_seq_reg rfl (by simp [u23_0, u23_1, mf24, mf25, mf26, mf27, c18, c19, c19M, c20, c21, c22]; rfl) ?_
      refine ee_seq_reg rfl (by simp [c18, c19, c19M, c20, c21, c22]; rfl) ?_
      refine ee_assoc ?_
      refine ee_seq_reg rfl (by simp [c18, c19, c19M, c20, c21, c22]; rfl) ?_
      refine ee_seq_block ?_
      refine ee_loop (kq := ⟨[1, 6, 7, 8, 9, 48, 49], [6, 46], []⟩) (H := fun (s : Int × Int × Int × (List Int)) => match s with | (p9, p10, p11, p12) => (⟨(und 1 ++ ([.one (.v (.int .i64 a1))] ++ (und 4 ++ ([.ptr 6 0 0 0 2, .one (.ms 46 0 0 (p12.length) 1), .one (.v (.int .u64 p9)), .one (.v (.int .i64 p10))] ++ (und 38 ++ ([.one (.v (.int .i64 a0.1)), .one (.v (.int .i64 p11))] ++ (und 46)))))) : List PV), ([(6, ⟨0, 2, [[.slice .no (intsR .u8 a0.2), .v (.int .i64 (IntKind.i64.wrap (8 * (a0.2.length : Int))))]], false, false⟩), (46, ⟨0, 1, intsR .u64 p12, false, true⟩)] : Boxes)⟩ : ASt)) (by kernel_rfl) hr (by simp [und, List.replicate, c18, c19, c19M, c20, c21, c22]) ?_
      rintro ⟨p9, p10, p11, p12⟩ x35r hr35
      simp only [Lgolomb_Decode_s1] at hr35
      unfold b22_1
      simp only [und, List.replicate, List.cons_append, List.nil_append]
      refine ee_seq_reg rfl (by simp [c18, c19, c19M, c20, c21, c22]; rfl) ?_
      by_cases c36 : p11 < a0.1
      ·skip
       rw [if_pos] at hr35
       rotate_left
       ·simp [c18, c19, c19M, c20, c21, c22, c36]
       refine ee_seq_condT (by simp [bV, c18, c19, c19M, c20, c21, c22, c36]) ?_
       refine ee_seq_skip ?_
       refine ee_seq_block ?_
       obtain ⟨y37, hy37, hr35⟩ := bs hr35
       have ehy37 := G35_eq hy37
       simp only [E35, R35, nf, nfs] at ehy37
       refine ee_seq_reg rfl (by simp [hO, hT35, ehy37, c18, c19, c19M, c20, c21, c22, c36]; rfl) ?_
       refine ee_assoc ?_
       refine ee_seq_reg rfl (by simp [c18, c19, c19M, c20, c21, c22, c36]; rfl) ?_
       by_cases c38 : y37.2.2 = 0
       ·skip
        rw [if_neg (not_not_intro c38)] at hr35
        refine ee_seq_condF (by simp [bV, c18, c19, c19M, c20, c21, c22, c36, eq_true c38]) ?_
        refine ee_seq_skip ?_
        refine ee_assoc ?_
        refine ee_seq_reg rfl (by simp [c18, c19, c19M, c20, c21, c22, c36, eq_true c38]; rfl) ?_
        by_cases c39 : IntKind.u64.wrap (p9 + y37.1) < p9
        ·skip
         rw [if_pos] at hr35
         rotate_left
         ·simp [c18, c19, c19M, c20, c21, c22, c36, eq_true c38, c39]
         refine ee_seq_condT (by simp [bV, c18, c19, c19M, c20, c21, c22, c36, eq_true c38, c39]) ?_
         refine ee_assoc ?_
         refine ee_seq_reg rfl (by simp [c18, c19, c19M, c20, c21, c22, c36, eq_true c38, c39]; rfl) ?_
         refine ee_seq_ret ?_
         obtain rfl := Option.some.inj hr35
         simp only [pq, reduceCtorEq]
         rintro rfl
         simp [FinQ, c18, c19, c19M, c20, c21, c22, c36, eq_true c38, c39, c19N]
        ·skip
         rw [if_neg] at hr35
         rotate_left
         ·simp [c18, c19, c19M, c20, c21, c22, c36, eq_true c38, c39]
         refine ee_seq_condF (by simp [bV, c18, c19, c19M, c20, c21, c22, c36, eq_true c38, c39]) ?_
         refine ee_seq_skip ?_
         refine ee_seq_reg rfl (by simp [c18, c19, c19M, c20, c21, c22, c36, eq_true c38, c39]; rfl) ?_
         obtain ⟨_, u40, hr35⟩ := bs hr35
         have u40_0 := chk_some u40
         have n1_u40_0 : (p12.length + 1) * 8 ≤ 140737488355328 := by omega
         have n2_u40_0 : p12.length + 1 ≤ 9223372036854775807 := by omega
         refine ee_reg rfl (by simp [n1_u40_0, n2_u40_0, c18, c19, c19M, c20, c21, c22, c36, eq_true c38, c39]; rfl) ?_
         simp only [pq, reduceCtorEq]
         refine ee_reg rfl (by simp [c18, c19, c19M, c20, c21, c22, c36, eq_true c38, c39]; rfl) ?_
         obtain rfl := Option.some.inj hr35
         simp only [pq, reduceCtorEq]
         simp [und, List.replicate, Nat.add_assoc, c18, c19, c19M, c20, c21, c22, c36, eq_true c38, c39]
       ·skip
        rw [if_pos c38] at hr35
        refine ee_seq_condT (by simp [bV, c18, c19, c19M, c20, c21, c22, c36, c38]) ?_
        refine ee_assoc ?_
        refine ee_seq_reg rfl (by simp [c18, c19, c19M, c20, c21, c22, c36, c38]; rfl) ?_
        refine ee_seq_ret ?_
        obtain rfl := Option.some.inj hr35
        simp only [pq, reduceCtorEq]
        rintro rfl
        simp [FinQ, c18, c19, c19M, c20, c21, c22, c36, c38, c19N]
      ·skip
       rw [if_neg] at hr35
       rotate_left
       ·simp [c18, c19, c19M, c20, c21, c22, c36]
       refine ee_seq_condF (by simp [bV, c18, c19, c19M, c20, c21, c22, c36]) ?_
       refine ee_seq_exit ?_
       obtain ⟨r41, q41, rfl⟩ := ms hr35
       simp only [pq, reduceCtorEq]
       rintro rfl
       try simp only [pq, reduceCtorEq]
       unfold Lgolomb_Decode_k1 at q41
       refine ee_seq_reg rfl (by simp [c18, c19, c19M, c20, c21, c22, c36]; rfl) ?_
       refine ee_assoc ?_
       refine ee_seq_reg rfl (by simp [c18, c19, c19M, c20, c21, c22, c36]; rfl) ?_
       by_cases c42 : 8 ≤ IntKind.i64.wrap ((IntKind.i64.wrap (8 * (a0.2.length : Int))) - p10)
       ·skip
        have c42N := c42
        try simp at c42N
        first | have c42M : (_ = _) = True := eq_true c42N | have c42M := c42N
        rw [if_pos c42] at q41
        refine ee_seq_condT (by simp [bV, c18, c19, c19M, c20, c21, c22, c36, c42, c42M]) ?_
        refine ee_assoc ?_
        refine ee_seq_reg rfl (by simp [c18, c19, c19M, c20, c21, c22, c36, c42, c42M]; rfl) ?_
        refine ee_seq_ret ?_
        obtain rfl := Option.some.inj q41
        simp [FinQ, c18, c19, c19M, c20, c21, c22, c36, c42, c42M, c19N, c42N]
       ·skip
        have c42N := c42
        try simp at c42N
        first | have c42M : (_ = _) = True := eq_true c42N | have c42M := c42N
        rw [if_neg c42] at q41
        refine ee_seq_condF (by simp [bV, c18, c19, c19M, c20, c21, c22, c36, c42, c42M]) ?_
        refine ee_seq_skip ?_
        obtain ⟨y43, hy43, q41⟩ := bs q41
        have ehy43 := G36_eq hy43
        simp only [E36, R36, nf, nfs] at ehy43
        refine ee_seq_reg rfl (by simp [hO, hT36, ehy43, c18, c19, c19M, c20, c21, c22, c36, c42, c42M]; rfl) ?_
        refine ee_assoc ?_
        refine ee_seq_reg rfl (by simp [c18, c19, c19M, c20, c21, c22, c36, c42, c42M]; rfl) ?_
        by_cases c44 : y43.2.2 = 0
        ·skip
         rw [if_neg (not_not_intro c44)] at q41
         refine ee_seq_condF (by simp [bV, c18, c19, c19M, c20, c21, c22, c36, c42, c42M, eq_true c44]) ?_
         refine ee_seq_skip ?_
         refine ee_assoc ?_
         refine ee_seq_reg rfl (by simp [c18, c19, c19M, c20, c21, c22, c36, c42, c42M, eq_true c44]; rfl) ?_
         by_cases c45 : y43.1 = 0
         ·skip
          rw [if_neg (not_not_intro c45)] at q41
          refine ee_seq_condF (by simp [bV, c18, c19, c19M, c20, c21, c22, c36, c42, c42M, eq_true c44, eq_true c45]) ?_
          refine ee_seq_skip ?_
          refine ee_seq_reg rfl (by simp [c18, c19, c19M, c20, c21, c22, c36, c42, c42M, eq_true c44, eq_true c45]; rfl) ?_
          refine ee_ret ?_
          obtain rfl := Option.some.inj q41
          simp [FinQ, c18, c19, c19M, c20, c21, c22, c36, c42, c42M, eq_true c44, eq_true c45, c19N, c42N]
         ·skip
          rw [if_pos c45] at q41
          refine ee_seq_condT (by simp [bV, c18, c19, c19M, c20, c21, c22, c36, c42, c42M, eq_true c44, c45]) ?_
          refine ee_assoc ?_
          refine ee_seq_reg rfl (by simp [c18, c19, c19M, c20, c21, c22, c36, c42, c42M, eq_true c44, c45]; rfl) ?_
          refine ee_seq_ret ?_
          obtain rfl := Option.some.inj q41
          simp [FinQ, c18, c19, c19M, c20, c21, c22, c36, c42, c42M, eq_true c44, c45, c19N, c42N]
        ·skip
         rw [if_pos c44] at q41
         refine ee_seq_condT (by simp [bV, c18, c19, c19M, c20, c21, c22, c36, c42, c42M, c44]) ?_
         refine ee_assoc ?_
         refine ee_seq_reg rfl (by simp [c18, c19, c19M, c20, c21, c22, c36, c42, c42M, c44]; rfl) ?_
         refine ee_seq_ret ?_
         obtain rfl := Option.some.inj q41
         simp [FinQ, c18, c19, c19M, c20, c21, c22, c36, c42, c42M, c44, c19N, c42N]
def kp8 : Keep := fun i => if i = 8 then ⟨[4, 7, 8, 30, 31, 32], [4, 52], [(8, none, 52, 1)]⟩ else if i = 1000013 then ⟨[4, 7, 8, 11, 30, 31, 32], [4, 52], []⟩ else ⟨[], [], []⟩
theorem w8 {T : Tab} (hO : T.own = fun _ => []) (hT12 : T 12 = some G12) (hT13 : T 13 = some G13) (hT15 : T 15 = some G15) (hT21 : T 21 = some G21) (hT22 : T 22 = some G22) (a0 : (List Int)) (a1 : Tapi_Filter) (a2 : Int) (x : Bool) (hr : Llaw19_GolombBack a0 a1 a2 = some x) : ∃ kp fl n, execFn tt T G kp fl n Try.f8 (E8 (a0, a1, a2)) = some (R8 (a0, a1, a2) x) := by
 simp only [E8, R8]
 refine fnE (kp := kp8) (w := false) body8 (by simp) ?_
 unfold c8
 rw [Try.ntmps8]
 unfold Llaw19_GolombBack at hr
 refine ee_seq_reg rfl (by simp []; rfl) ?_
 refine ee_assoc ?_
 obtain ⟨y34, hy34, hr⟩ := bs hr
 have ehy34 := G12_eq hy34
 simp only [E12, R12, nf, nfs] at ehy34
 refine ee_seq_reg rfl (by simp [hO, hT12, ehy34]; rfl) ?_
 by_cases c35 : y34 = true
 ·skip
  rw [if_neg (not_not_intro c35)] at hr
  refine ee_seq_condF (by simp [bV, c35]) ?_
  refine ee_seq_skip ?_
  refine ee_assoc ?_
  by_cases c36 : 40 < (a0.length : Int)
  ·skip
   have c36N := c36
   try simp at c36N
   first | have c36M : (_ = _) = True := eq_true c36N | have c36M := c36N
   refine ee_seq_reg rfl (by simp [c35, c36, c36M]; rfl) ?_
   rw [if_pos] at hr
   rotate_left
   ·simp [c35, c36, c36M]
   refine ee_seq_condT (by simp [bV, c35, c36, c36M]) ?_
   refine ee_assoc ?_
   refine ee_seq_reg rfl (by simp [c35, c36, c36M]; rfl) ?_
   refine ee_seq_ret ?_
   obtain rfl := Option.some.inj hr
   simp [FinQ, c35, c36, c36M, c36N]
  ·skip
   have c36N := c36
   try simp at c36N
   first | have c36M : (_ = _) = True := eq_true c36N | have c36M := c36N
   refine ee_seq_reg rfl (by simp [c35, c36, c36M]; rfl) ?_
   by_cases c37 : 400 < (a1.2.length : Int)
   ·skip
    have c37N := c37
    try simp at c37N
    first | have c37M : (_ = _) = True := eq_true c37N | have c37M := c37N
    rw [if_pos] at hr
    rotate_left
    ·simp [c35, c36, c36M, c37, c37M]
    refine ee_seq_condT (by simp [bV, c35, c36, c36M, c37, c37M]) ?_
    refine ee_assoc ?_
    refine ee_seq_reg rfl (by simp [c35, c36, c36M, c37, c37M]; rfl) ?_
    refine ee_seq_ret ?_
    obtain rfl := Option.some.inj hr
    simp [FinQ, c35, c36, c36M, c37, c37M, c36N, c37N]
   ·skip
    have c37N := c37
    try simp at c37N
    first | have c37M : (_ = _) = True := eq_true c37N | have c37M := c37N
    rw [if_neg] at hr
    rotate_left
    ·simp [c35, c36, c36M, c37, c37M]
    refine ee_seq_condF (by simp [bV, c35, c36, c36M, c37, c37M]) ?_
    refine ee_seq_skip ?_
    refine ee_seq_reg rfl (by simp [c35, c36, c36M, c37, c37M]; rfl) ?_
    refine ee_seq_reg rfl (by simp [c35, c36, c36M, c37, c37M]; rfl) ?_
    refine ee_assoc ?_
    refine ee_seq_reg rfl (by simp [c35, c36, c36M, c37, c37M]; rfl) ?_
    refine ee_seq_block ?_
    refine ee_loop (kq := ⟨[4, 7, 8, 30, 31, 32], [4, 52], [(8, none, 52, 1)]⟩) (H := fun (s : Int × (List Int)) => match s with | (p12, p13) => (⟨(und 4 ++ ([.ptr 4 0 0 0 2] ++ (und 2 ++ ([.one (.v (.int .i64 (IntKind.i64.wrap ((a2).tmod 20)))), .one (.ms 52 0 0 (p13.length) 1)] ++ (und 21 ++ ([.one (.slice .no (intsR .u16 a0)), .one (.v (.int .i64 (a0.length : Int))), .one (.v (.int .i64 p12))] ++ (und 69)))))) : List PV), ([(4, ⟨0, 2, [[.v (.int .i64 a1.1), .slice .no (intsR .u8 a1.2)]], false, false⟩), (52, ⟨0, 1, intsR .u64 p13, false, true⟩)] : Boxes)⟩ : ASt)) (by kernel_rfl) hr (by simp [und, List.replicate, c35, c36, c36M, c37, c37M]) ?_
    rintro ⟨p12, p13⟩ x50r hr50
    simp only [Llaw19_GolombBack_s1] at hr50
    unfold b8_1
    simp only [und, List.replicate, List.cons_append, List.nil_append]
    refine ee_seq_reg rfl (by simp [c35, c36, c36M, c37, c37M]; rfl) ?_
    by_cases c51 : p12 < (a0.length : Int)
    ·skip
     have c51N := c51
     try simp at c51N
     first | have c51M : (_ = _) = True := eq_true c51N | have c51M := c51N
     rw [if_pos] at hr50
     rotate_left
     ·simp [c35, c36, c36M, c37, c37M, c51, c51M]
     refine ee_seq_condT (by simp [bV, c35, c36, c36M, c37, c37M, c51, c51M]) ?_
     refine ee_seq_skip ?_
     refine ee_seq_block ?_
     obtain ⟨x52, hx52, hr50⟩ := bs hr50
     obtain ⟨hx52a, hx52b⟩ := idx_some hx52
     have hx52c := getE_of hx52b
     refine ee_seq_reg rfl (by simp [hx52a, hx52b, hx52c, c35, c36, c36M, c37, c37M, c51, c51M]; rfl) ?_
     refine ee_seq_reg rfl (by simp [c35, c36, c36M, c37, c37M, c51, c51M]; rfl) ?_
     refine ee_assoc ?_
     refine ee_seq_reg rfl (by simp [c35, c36, c36M, c37, c37M, c51, c51M]; rfl) ?_
     refine ee_seq_J hr50 (fun (s : Int) => match s with | p30 => (⟨(und 4 ++ ([.ptr 4 0 0 0 2] ++ (und 2 ++ ([.one (.v (.int .i64 (IntKind.i64.wrap ((a2).tmod 20)))), .one (.ms 52 0 0 (p13.length) 1)] ++ (und 2 ++ ([.one (.v (.int .u64 p30))] ++ (und 18 ++ ([.one (.slice .no (intsR .u16 a0)), .one (.v (.int .i64 (a0.length : Int))), .one (.v (.int .i64 p12))] ++ (und 69)))))))) : List PV), ([(4, ⟨0, 2, [[.v (.int .i64 a1.1), .slice .no (intsR .u8 a1.2)]], false, false⟩), (52, ⟨0, 1, intsR .u64 p13, false, true⟩)] : Boxes)⟩ : ASt)) (fun (s : Int) => match s with | p30 => Llaw19_GolombBack_k2 p13 p12 p30) ?_ ?_
     ·skip
      rintro p30 hk56
      change Llaw19_GolombBack_k2 p13 p12 p30 = _ at hk56
      simp only [und, List.replicate, List.cons_append, List.nil_append]
      unfold Llaw19_GolombBack_k2 at hk56
      obtain ⟨_, u57, hk56⟩ := bs hk56
      have u57_0 := chk_some u57
      have n1_u57_0 : (p13.length + 1) * 8 ≤ 140737488355328 := by omega
      have n2_u57_0 : p13.length + 1 ≤ 9223372036854775807 := by omega
      refine ee_regJ rfl (kq := ⟨[4, 7, 8, 11, 30, 31, 32], [4, 52], []⟩) rfl (by simp [joinSt, n1_u57_0, n2_u57_0, c35, c36, c36M, c37, c37M, c51, c51M]; rfl) (by simp [n1_u57_0, n2_u57_0, c35, c36, c36M, c37, c37M, c51, c51M]; rfl) ?_
      simp only [pq, reduceCtorEq]
      refine ee_reg rfl (by simp [c35, c36, c36M, c37, c37M, c51, c51M]; rfl) ?_
      obtain rfl := Option.some.inj hk56
      simp only [pq, reduceCtorEq]
      simp [und, List.replicate, Nat.add_assoc, c35, c36, c36M, c37, c37M, c51, c51M]
     ·skip
      intro J56
      by_cases c58 : 0 < p12
      ·skip
       rw [if_pos] at hr50
       rotate_left
       ·simp [c35, c36, c36M, c37, c37M, c51, c51M, c58]
       refine ee_seq_condT (by simp [bV, c35, c36, c36M, c37, c37M, c51, c51M, c58]) ?_
       obtain ⟨j59, hj59, hr50⟩ := bs hr50
       obtain ⟨j59a, j59b, j59c⟩ := inA_some hj59
       obtain ⟨x60, hx60, hr50⟩ := bs hr50
       have ghx60 := getE_of hx60
       refine ee_seq_reg rfl (by simp [j59a, j59b, j59c, hx60, ghx60, c35, c36, c36M, c37, c37M, c51, c51M, c58]; rfl) ?_
       exact ee_join (key := 1000013) (kq := ⟨[4, 7, 8, 11, 30, 31, 32], [4, 52], []⟩) rfl rfl rfl (by simp [und, List.replicate, c35, c36, c36M, c37, c37M, c51, c51M, c58]) (J56 (IntKind.u64.wrap ((IntKind.u64.wrap ((x52).tmod 500)) + x60)) hr50)
      ·skip
       rw [if_neg] at hr50
       rotate_left
       ·simp [c35, c36, c36M, c37, c37M, c51, c51M, c58]
       refine ee_seq_condF (by simp [bV, c35, c36, c36M, c37, c37M, c51, c51M, c58]) ?_
       refine ee_seq_skip ?_
       exact ee_join (key := 1000013) (kq := ⟨[4, 7, 8, 11, 30, 31, 32], [4, 52], []⟩) rfl rfl rfl (by simp [und, List.replicate, c35, c36, c36M, c37, c37M, c51, c51M, c58]) (J56 (IntKind.u64.wrap ((x52).tmod 500)) hr50)
    ·skip
     have c51N := c51
     try simp at c51N
     first | have c51M : (_ = _) = True := eq_true c51N | have c51M := c51N
     rw [if_neg] at hr50
     rotate_left
     ·simp [c35, c36, c36M, c37, c37M, c51, c51M]
     refine ee_seq_condF (by simp [bV, c35, c36, c36M, c37, c37M, c51, c51M]) ?_
     refine ee_seq_exit ?_
     obtain ⟨r61, q61, rfl⟩ := ms hr50
     simp only [pq, reduceCtorEq]
     rintro rfl
     try simp only [pq, reduceCtorEq]
     unfold Llaw19_GolombBack_k1 at q61
     obtain ⟨y62, hy62, q61⟩ := bs q61
     have ehy62 := G13_eq hy62
     simp only [E13, R13, nf, nfs] at ehy62
     refine ee_seq_reg rfl (by simp [hO, hT13, ehy62, c35, c36, c36M, c37, c37M, c51, c51M]; rfl) ?_
     obtain ⟨y63, hy63, q61⟩ := bs q61
     have ehy63 := G22_eq hy63
     simp only [E22, R22, nf, nfs] at ehy63
     refine ee_seq_reg rfl (by simp [hO, hT22, ehy63, c35, c36, c36M, c37, c37M, c51, c51M]; rfl) ?_
     refine ee_assoc ?_
     by_cases c64 : y62.2 = 0
     ·skip
      by_cases c65 : y63.2 = 0
      ·skip
       rw [if_neg] at q61
       rotate_left
       ·simp [c35, c36, c36M, c37, c37M, c51, c51M, eq_true c64, eq_true c65]
       obtain ⟨z66, hz66, q61⟩ := bs q61
       obtain ⟨y67, hy67, hz66⟩ := bs hz66
       have ehy67 := G21_eq hy67
       simp only [E21, R21, nf, nfs] at ehy67
       obtain rfl := Option.some.inj hz66
       refine ee_seq_reg rfl (by simp [hO, hT21, ehy67, c35, c36, c36M, c37, c37M, c51, c51M, eq_true c64, eq_true c65]; rfl) ?_
       by_cases c68 : y67 = true
       ·skip
        rw [if_neg] at q61
        rotate_left
        ·simp [c35, c36, c36M, c37, c37M, c51, c51M, eq_true c64, eq_true c65, c68]
        refine ee_seq_condF (by simp [bV, c35, c36, c36M, c37, c37M, c51, c51M, eq_true c64, eq_true c65, c68]) ?_
        refine ee_seq_skip ?_
        obtain ⟨y69, hy69, q61⟩ := bs q61
        have ehy69 := G22_eq hy69
        simp only [E22, R22, nf, nfs] at ehy69
        refine ee_seq_reg rfl (by simp [hO, hT22, ehy69, c35, c36, c36M, c37, c37M, c51, c51M, eq_true c64, eq_true c65, c68]; rfl) ?_
        refine ee_assoc ?_
        refine ee_seq_reg rfl (by simp [c35, c36, c36M, c37, c37M, c51, c51M, eq_true c64, eq_true c65, c68]; rfl) ?_
        by_cases c70 : y69.2 = 0
        ·skip
         rw [if_neg (not_not_intro c70)] at q61
         refine ee_seq_condF (by simp [bV, c35, c36, c36M, c37, c37M, c51, c51M, eq_true c64, eq_true c65, c68, eq_true c70]) ?_
         refine ee_seq_skip ?_
         obtain ⟨y71, hy71, q61⟩ := bs q61
         have ehy71 := G13_eq hy71
         simp only [E13, R13, nf, nfs] at ehy71
         refine ee_seq_reg rfl (by simp [hO, hT13, ehy71, c35, c36, c36M, c37, c37M, c51, c51M, eq_true c64, eq_true c65, c68, eq_true c70]; rfl) ?_
         by_cases c72 : y71.2 = 0
         ·skip
          rw [if_pos] at q61
          rotate_left
          ·simp [c35, c36, c36M, c37, c37M, c51, c51M, eq_true c64, eq_true c65, c68, eq_true c70, eq_true c72]
          obtain ⟨z73, hz73, q61⟩ := bs q61
          obtain ⟨y74, hy74, hz73⟩ := bs hz73
          have ehy74 := G15_eq hy74
          simp only [E15, R15, nf, nfs] at ehy74
          obtain rfl := Option.some.inj hz73
          refine ee_seq_reg rfl (by simp [hO, hT15, ehy74, c35, c36, c36M, c37, c37M, c51, c51M, eq_true c64, eq_true c65, c68, eq_true c70, eq_true c72]; rfl) ?_
          refine ee_ret ?_
          obtain rfl := Option.some.inj q61
          simp [FinQ, hO, hT15, ehy74, c35, c36, c36M, c37, c37M, c51, c51M, eq_true c64, eq_true c65, c68, eq_true c70, eq_true c72, c36N, c37N, c51N]
         ·skip
          rw [if_neg] at q61
          rotate_left
          ·simp [c35, c36, c36M, c37, c37M, c51, c51M, eq_true c64, eq_true c65, c68, eq_true c70, c72]
          obtain ⟨z75, hz75, q61⟩ := bs q61
          obtain rfl := Option.some.inj hz75
          refine ee_seq_reg rfl (by simp [c35, c36, c36M, c37, c37M, c51, c51M, eq_true c64, eq_true c65, c68, eq_true c70, c72]; rfl) ?_
          refine ee_ret ?_
          obtain rfl := Option.some.inj q61
          simp [FinQ, c35, c36, c36M, c37, c37M, c51, c51M, eq_true c64, eq_true c65, c68, eq_true c70, c72, c36N, c37N, c51N]
        ·skip
         rw [if_pos c70] at q61
         refine ee_seq_condT (by simp [bV, c35, c36, c36M, c37, c37M, c51, c51M, eq_true c64, eq_true c65, c68, c70]) ?_
         refine ee_assoc ?_
         refine ee_seq_reg rfl (by simp [c35, c36, c36M, c37, c37M, c51, c51M, eq_true c64, eq_true c65, c68, c70]; rfl) ?_
         refine ee_seq_ret ?_
         obtain rfl := Option.some.inj q61
         simp [FinQ, c35, c36, c36M, c37, c37M, c51, c51M, eq_true c64, eq_true c65, c68, c70, c36N, c37N, c51N]
       ·skip
        rw [if_pos] at q61
        rotate_left
        ·simp [c35, c36, c36M, c37, c37M, c51, c51M, eq_true c64, eq_true c65, c68]
        refine ee_seq_condT (by simp [bV, c35, c36, c36M, c37, c37M, c51, c51M, eq_true c64, eq_true c65, c68]) ?_
        refine ee_assoc ?_
        refine ee_seq_reg rfl (by simp [c35, c36, c36M, c37, c37M, c51, c51M, eq_true c64, eq_true c65, c68]; rfl) ?_
        refine ee_seq_ret ?_
        obtain rfl := Option.some.inj q61
        simp [FinQ, c35, c36, c36M, c37, c37M, c51, c51M, eq_true c64, eq_true c65, c68, c36N, c37N, c51N]
      ·skip
       rw [if_pos] at q61
       rotate_left
       ·simp [c35, c36, c36M, c37, c37M, c51, c51M, eq_true c64, c65]
       obtain ⟨z76, hz76, q61⟩ := bs q61
       obtain rfl := Option.some.inj hz76
       refine ee_seq_reg rfl (by simp [c35, c36, c36M, c37, c37M, c51, c51M, eq_true c64, c65]; rfl) ?_
       rw [if_pos] at q61
       rotate_left
       ·simp [c35, c36, c36M, c37, c37M, c51, c51M, eq_true c64, c65]
       refine ee_seq_condT (by simp [bV, c35, c36, c36M, c37, c37M, c51, c51M, eq_true c64, c65]) ?_
       refine ee_assoc ?_
       refine ee_seq_reg rfl (by simp [c35, c36, c36M, c37, c37M, c51, c51M, eq_true c64, c65]; rfl) ?_
       refine ee_seq_ret ?_
       obtain rfl := Option.some.inj q61
       simp [FinQ, c35, c36, c36M, c37, c37M, c51, c51M, eq_true c64, c65, c36N, c37N, c51N]
     ·skip
      rw [if_pos] at q61
      rotate_left
      ·simp [c35, c36, c36M, c37, c37M, c51, c51M, c64]
      obtain ⟨z77, hz77, q61⟩ := bs q61
      obtain rfl := Option.some.inj hz77
      refine ee_seq_reg rfl (by simp [c35, c36, c36M, c37, c37M, c51, c51M, c64]; rfl) ?_
      rw [if_pos] at q61
      rotate_left
      ·simp [c35, c36, c36M, c37, c37M, c51, c51M, c64]
      refine ee_seq_condT (by simp [bV, c35, c36, c36M, c37, c37M, c51, c51M, c64]) ?_
      refine ee_assoc ?_
      refine ee_seq_reg rfl (by simp [c35, c36, c36M, c37, c37M, c51, c51M, c64]; rfl) ?_
      refine ee_seq_ret ?_
      obtain rfl := Option.some.inj q61
      simp [FinQ, c35, c36, c36M, c37, c37M, c51, c51M, c64, c36N, c37N, c51N]
 ·skip
  rw [if_pos c35] at hr
  refine ee_seq_condT (by simp [bV, c35]) ?_
  refine ee_assoc ?_
  refine ee_seq_reg rfl (by simp [c35]; rfl) ?_
  refine ee_seq_ret ?_
  obtain rfl := Option.some.inj hr
  simp [FinQ, c35]
end Go.Proofs.Ytmjbklblgpnagaa
