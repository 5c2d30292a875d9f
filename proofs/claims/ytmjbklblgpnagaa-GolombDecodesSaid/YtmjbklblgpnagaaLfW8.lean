import Derived.Test.YtmjbklblgpnagaaLfK
import Derived.Test.YtmjbklblgpnagaaCode
import Derived.Test.YtmjbklblgpnagaaBl
namespace Go.Proofs.Ytmjbklblgpnagaa
open Go.RowKit
open Go.Av
open Go.Lc
set_option maxRecDepth 100000
set_option linter.unusedSimpArgs false
set_option linter.unusedVariables false
set_option maxHeartbeats 4000000
variable {G : Glob}
def kp22 : Keep := fun i => if i = 9 then ⟨[1, 6, 7, 8, 9, 48, 49], [6, 46], []⟩ else ⟨[], [], []⟩
theorem w22 {T : Tab} (hO : T.own = fun _ => []) (hT35 : T 35 = some G35) (hT36 : T 36 = some G36) (a0 : Tapi_Filter) (a1 : Int) (x : (List Int) × Int) (hr : Lgolomb_Decode a0 a1 = some x) : ∃ kp fl n, execFn tt T G kp fl n Try.f22 (E22 (a0, a1)) = some (R22 (a0, a1) x) := by
 simp only [E22, R22]
 refine fnE (kp := kp22) (w := false) body22 (by simp) ?_
 unfold c22
 rw [Try.ntmps22]
 unfold Lgolomb_Decode at hr
 refine ee_seq_reg rfl (by simp []; rfl) ?_
 refine ee_assoc ?_
 by_cases c18 : 4096 < a0.1
 ·skip
  refine ee_seq_reg rfl (by simp [c18]; rfl) ?_
  rw [if_pos] at hr
  rotate_left
  ·simp [c18]
  refine ee_seq_condT (by simp [bV, c18]) ?_
  refine ee_assoc ?_
  refine ee_seq_reg rfl (by simp [c18]; rfl) ?_
  refine ee_seq_ret ?_
  obtain rfl := Option.some.inj hr
  simp [FinQ, c18]
 ·skip
  refine ee_seq_reg rfl (by simp [c18]; rfl) ?_
  by_cases c19 : 200000 < (a0.2.length : Int)
  ·skip
   have c19N := c19
   try simp at c19N
   first | have c19M : (_ = _) = True := eq_true c19N | have c19M := c19N
   rw [if_pos] at hr
   rotate_left
   ·simp [c18, c19, c19M]
   refine ee_seq_condT (by simp [bV, c18, c19, c19M]) ?_
   refine ee_assoc ?_
   refine ee_seq_reg rfl (by simp [c18, c19, c19M]; rfl) ?_
   refine ee_seq_ret ?_
   obtain rfl := Option.some.inj hr
   simp [FinQ, c18, c19, c19M, c19N]
  ·skip
   have c19N := c19
   try simp at c19N
   first | have c19M : (_ = _) = True := eq_true c19N | have c19M := c19N
   rw [if_neg] at hr
   rotate_left
   ·simp [c18, c19, c19M]
   refine ee_seq_condF (by simp [bV, c18, c19, c19M]) ?_
   refine ee_seq_skip ?_
   refine ee_assoc ?_
   by_cases c20 : a0.1 < 0
   ·skip
    refine ee_seq_reg rfl (by simp [c18, c19, c19M, c20]; rfl) ?_
    rw [if_pos] at hr
    rotate_left
    ·simp [c18, c19, c19M, c20]
    refine ee_seq_condT (by simp [bV, c18, c19, c19M, c20]) ?_
    refine ee_assoc ?_
    refine ee_seq_reg rfl (by simp [c18, c19, c19M, c20]; rfl) ?_
    refine ee_seq_ret ?_
    obtain rfl := Option.some.inj hr
    simp [FinQ, c18, c19, c19M, c20, c19N]
   ·skip
    by_cases c21 : a1 < 0
    ·skip
     refine ee_seq_reg rfl (by simp [c18, c19, c19M, c20, c21]; rfl) ?_
     rw [if_pos] at hr
     rotate_left
     ·simp [c18, c19, c19M, c20, c21]
     refine ee_seq_condT (by simp [bV, c18, c19, c19M, c20, c21]) ?_
     refine ee_assoc ?_
     refine ee_seq_reg rfl (by simp [c18, c19, c19M, c20, c21]; rfl) ?_
     refine ee_seq_ret ?_
     obtain rfl := Option.some.inj hr
     simp [FinQ, c18, c19, c19M, c20, c21, c19N]
    ·skip
     refine ee_seq_reg rfl (by simp [c18, c19, c19M, c20, c21]; rfl) ?_
     by_cases c22 : 32 < a1
     ·skip
      rw [if_pos] at hr
      rotate_left
      ·simp [c18, c19, c19M, c20, c21, c22]
      refine ee_seq_condT (by simp [bV, c18, c19, c19M, c20, c21, c22]) ?_
      refine ee_assoc ?_
      refine ee_seq_reg rfl (by simp [c18, c19, c19M, c20, c21, c22]; rfl) ?_
      refine ee_seq_ret ?_
      obtain rfl := Option.some.inj hr
      simp [FinQ, c18, c19, c19M, c20, c21, c22, c19N]
     ·skip
      rw [if_neg] at hr
      rotate_left
      ·simp [c18, c19, c19M, c20, c21, c22]
      refine ee_seq_condF (by simp [bV, c18, c19, c19M, c20, c21, c22]) ?_
      refine ee_seq_skip ?_
      refine ee_seq_reg rfl (by simp [c18, c19, c19M, c20, c21, c22]; rfl) ?_
      obtain ⟨_, u23, hr⟩ := bs hr
      obtain ⟨u23_0, u23_1⟩ := chk_some u23
      have mf24 : 0 ≤ (a0.1).toNat := by omega
      have mf25 : (a0.1).toNat * 8 ≤ 140737488355328 := by omega
      have mf26 : (a0.1).toNat ≤ 9223372036854775807 := by omega
      have mf27 : 0 ≤ a0.1 := by omega
      refine ee_seq_reg rfl (by simp [u23_0, u23_1, mf24, mf25, mf26, mf27, c18, c19, c19M, c20, c21, c22]; rfl) ?_
      refine ee_seq_reg rfl (by simp [c18, c19, c19M, c20, c21, c22]; rfl) ?_
      refine ee_assoc ?_
      refine ee_seq_reg rfl (by simp [c18, c19, c19M, c20, c21, c22]; rfl) ?_
      refine ee_seq_block ?_
      refine ee_loop (kq := ⟨[1, 6, 7, 8, 9, 48, 49], [6, 46], []⟩) (H := fun (s : Int × Int × Int × (List Int)) => match s with | (p9, p10, p11, p12) => (⟨(und 1 ++ ([.one (.v (.int .i64 a1))] ++ (und 4 ++ ([.ptr 6 0 0 0 2, .one (.ms 46 0 0 (p12.length) 1), .one (.v (.int .u64 p9)), .one (.v (.int .i64 p10))] ++ (und 38 ++ ([.one (.v (.int .i64 a0.1)), .one (.v (.int .i64 p11))] ++ (und 46)))))) : List PV), ([(6, ⟨0, 2, [[.slice .no (intsR .u8 a0.2), .v (.int .i64 (IntKind.i64.wrap (8 * (a0.2.length : Int))))]], false, false⟩), (46, ⟨0, 1, intsR .u64 p12, false, true⟩)] : Boxes)⟩ : ASt)) (by kernel_rfl) hr (by simp [und, List.replicate, c18, c19, c19M, c20, c21, c22]) ?_
      rintro ⟨p9, p10, p11, p12⟩ x35r hr35
      simp only [Lgolomb_Decode_s1] at hr35
      unfold b22_1
      simp only [und, List.replicate, List.cons_append, List.nil_append]
      refine ee_seq_reg rfl (by simp [c18, c19, c19M, c20, c21, c22]; rfl) ?_
      by_cases c36 : p11 < a0.1
      ·skip
       rw [if_pos] at hr35
       rotate_left
       ·simp [c18, c19, c19M, c20, c21, c22, c36]
       refine ee_seq_condT (by simp [bV, c18, c19, c19M, c20, c21, c22, c36]) ?_
       refine ee_seq_skip ?_
       refine ee_seq_block ?_
       obtain ⟨y37, hy37, hr35⟩ := bs hr35
       have ehy37 := G35_eq hy37
       simp only [E35, R35, nf, nfs] at ehy37
       refine ee_seq_reg rfl (by simp [hO, hT35, ehy37, c18, c19, c19M, c20, c21, c22, c36]; rfl) ?_
       refine ee_assoc ?_
       refine ee_seq_reg rfl (by simp [c18, c19, c19M, c20, c21, c22, c36]; rfl) ?_
       by_cases c38 : y37.2.2 = 0
       ·skip
        rw [if_neg (not_not_intro c38)] at hr35
        refine ee_seq_condF (by simp [bV, c18, c19, c19M, c20, c21, c22, c36, eq_true c38]) ?_
        refine ee_seq_skip ?_
        refine ee_assoc ?_
        refine ee_seq_reg rfl (by simp [c18, c19, c19M, c20, c21, c22, c36, eq_true c38]; rfl) ?_
        by_cases c39 : IntKind.u64.wrap (p9 + y37.1) < p9
        ·skip
         rw [if_pos] at hr35
         rotate_left
         ·simp [c18, c19, c19M, c20, c21, c22, c36, eq_true c38, c39]
         refine ee_seq_condT (by simp [bV, c18, c19, c19M, c20, c21, c22, c36, eq_true c38, c39]) ?_
         refine ee_assoc ?_
         refine ee_seq_reg rfl (by simp [c18, c19, c19M, c20, c21, c22, c36, eq_true c38, c39]; rfl) ?_
         refine ee_seq_ret ?_
         obtain rfl := Option.some.inj hr35
         simp only [pq, reduceCtorEq]
         rintro rfl
         simp [FinQ, c18, c19, c19M, c20, c21, c22, c36, eq_true c38, c39, c19N]
        ·skip
         rw [if_neg] at hr35
         rotate_left
         ·simp [c18, c19, c19M, c20, c21, c22, c36, eq_true c38, c39]
         refine ee_seq_condF (by simp [bV, c18, c19, c19M, c20, c21, c22, c36, eq_true c38, c39]) ?_
         refine ee_seq_skip ?_
         refine ee_seq_reg rfl (by simp [c18, c19, c19M, c20, c21, c22, c36, eq_true c38, c39]; rfl) ?_
         obtain ⟨_, u40, hr35⟩ := bs hr35
         have u40_0 := chk_some u40
         have n1_u40_0 : (p12.length + 1) * 8 ≤ 140737488355328 := by omega
         have n2_u40_0 : p12.length + 1 ≤ 9223372036854775807 := by omega
         refine ee_reg rfl (by simp [n1_u40_0, n2_u40_0, c18, c19, c19M, c20, c21, c22, c36, eq_true c38, c39]; rfl) ?_
         simp only [pq, reduceCtorEq]
         refine ee_reg rfl (by simp [c18, c19, c19M, c20, c21, c22, c36, eq_true c38, c39]; rfl) ?_
         obtain rfl := Option.some.inj hr35
         simp only [pq, reduceCtorEq]
         simp [und, List.replicate, Nat.add_assoc, c18, c19, c19M, c20, c21, c22, c36, eq_true c38, c39]
       ·skip
        rw [if_pos c38] at hr35
        refine ee_seq_condT (by simp [bV, c18, c19, c19M, c20, c21, c22, c36, c38]) ?_
        refine ee_assoc ?_
        refine ee_seq_reg rfl (by simp [c18, c19, c19M, c20, c21, c22, c36, c38]; rfl) ?_
        refine ee_seq_ret ?_
        obtain rfl := Option.some.inj hr35
        simp only [pq, reduceCtorEq]
        rintro rfl
        simp [FinQ, c18, c19, c19M, c20, c21, c22, c36, c38, c19N]
      ·skip
       rw [if_neg] at hr35
       rotate_left
       ·simp [c18, c19, c19M, c20, c21, c22, c36]
       refine ee_seq_condF (by simp [bV, c18, c19, c19M, c20, c21, c22, c36]) ?_
       refine ee_seq_exit ?_
       obtain ⟨r41, q41, rfl⟩ := ms hr35
       simp only [pq, reduceCtorEq]
       rintro rfl
       try simp only [pq, reduceCtorEq]
       unfold Lgolomb_Decode_k1 at q41
       refine ee_seq_reg rfl (by simp [c18, c19, c19M, c20, c21, c22, c36]; rfl) ?_
       refine ee_assoc ?_
       refine ee_seq_reg rfl (by simp [c18, c19, c19M, c20, c21, c22, c36]; rfl) ?_
       by_cases c42 : 8 ≤ IntKind.i64.wrap ((IntKind.i64.wrap (8 * (a0.2.length : Int))) - p10)
       ·skip
        have c42N := c42
        try simp at c42N
        first | have c42M : (_ = _) = True := eq_true c42N | have c42M := c42N
        rw [if_pos c42] at q41
        refine ee_seq_condT (by simp [bV, c18, c19, c19M, c20, c21, c22, c36, c42, c42M]) ?_
        refine ee_assoc ?_
        refine ee_seq_reg rfl (by simp [c18, c19, c19M, c20, c21, c22, c36, c42, c42M]; rfl) ?_
        refine ee_seq_ret ?_
        obtain rfl := Option.some.inj q41
        simp [FinQ, c18, c19, c19M, c20, c21, c22, c36, c42, c42M, c19N, c42N]
       ·skip
        have c42N := c42
        try simp at c42N
        first | have c42M : (_ = _) = True := eq_true c42N | have c42M := c42N
        rw [if_neg c42] at q41
        refine ee_seq_condF (by simp [bV, c18, c19, c19M, c20, c21, c22, c36, c42, c42M]) ?_
        refine ee_seq_skip ?_
        obtain ⟨y43, hy43, q41⟩ := bs q41
        have ehy43 := G36_eq hy43
        simp only [E36, R36, nf, nfs] at ehy43
        refine ee_seq_reg rfl (by simp [hO, hT36, ehy43, c18, c19, c19M, c20, c21, c22, c36, c42, c42M]; rfl) ?_
        refine ee_assoc ?_
        refine ee_seq_reg rfl (by simp [c18, c19, c19M, c20, c21, c22, c36, c42, c42M]; rfl) ?_
        by_cases c44 : y43.2.2 = 0
        ·skip
         rw [if_neg (not_not_intro c44)] at q41
         refine ee_seq_condF (by simp [bV, c18, c19, c19M, c20, c21, c22, c36, c42, c42M, eq_true c44]) ?_
         refine ee_seq_skip ?_
         refine ee_assoc ?_
         refine ee_seq_reg rfl (by simp [c18, c19, c19M, c20, c21, c22, c36, c42, c42M, eq_true c44]; rfl) ?_
         by_cases c45 : y43.1 = 0
         ·skip
          rw [if_neg (not_not_intro c45)] at q41
          refine ee_seq_condF (by simp [bV, c18, c19, c19M, c20, c21, c22, c36, c42, c42M, eq_true c44, eq_true c45]) ?_
          refine ee_seq_skip ?_
          refine ee_seq_reg rfl (by simp [c18, c19, c19M, c20, c21, c22, c36, c42, c42M, eq_true c44, eq_true c45]; rfl) ?_
          refine ee_ret ?_
          obtain rfl := Option.some.inj q41
          simp [FinQ, c18, c19, c19M, c20, c21, c22, c36, c42, c42M, eq_true c44, eq_true c45, c19N, c42N]
         ·skip
          rw [if_pos c45] at q41
          refine ee_seq_condT (by simp [bV, c18, c19, c19M, c20, c21, c22, c36, c42, c42M, eq_true c44, c45]) ?_
          refine ee_assoc ?_
          refine ee_seq_reg rfl (by simp [c18, c19, c19M, c20, c21, c22, c36, c42, c42M, eq_true c44, c45]; rfl) ?_
          refine ee_seq_ret ?_
          obtain rfl := Option.some.inj q41
          simp [FinQ, c18, c19, c19M, c20, c21, c22, c36, c42, c42M, eq_true c44, c45, c19N, c42N]
        ·skip
         rw [if_pos c44] at q41
         refine ee_seq_condT (by simp [bV, c18, c19, c19M, c20, c21, c22, c36, c42, c42M, c44]) ?_
         refine ee_assoc ?_
         refine ee_seq_reg rfl (by simp [c18, c19, c19M, c20, c21, c22, c36, c42, c42M, c44]; rfl) ?_
         refine ee_seq_ret ?_
         obtain rfl := Option.some.inj q41
         simp [FinQ, c18, c19, c19M, c20, c21, c22, c36, c42, c42M, c44, c19N, c42N]
def kp54 : Keep := fun i => ⟨[], [], []⟩
theorem w54 {T : Tab} (a0 : Tapi_Bits) (a1 : Int) (x : Bool) (hr : Lref18_bit a0 a1 = some x) : ∃ kp fl n, execFn tt T G kp fl n Try.f54 (E54 (a0, a1)) = some (R54 (a0, a1) x) := by
 simp only [E54, R54]
 refine fnE (kp := kp54) (w := false) body54 (by simp) ?_
 unfold c54
 rw [Try.ntmps54]
 unfold Lref18_bit at hr
 refine ee_seq_reg rfl (by simp []; rfl) ?_
 obtain ⟨x3, hx3, hr⟩ := bs hr
 obtain ⟨hx3a, hx3b⟩ := idx_some hx3
 have hx3c := getE_of hx3b
 obtain ⟨_, u4, hr⟩ := bs hr
 have u4_0 := chk_some u4
 refine ee_seq_reg rfl (by simp [hx3a, hx3b, hx3c, u4_0]; rfl) ?_
 refine ee_ret ?_
 obtain rfl := Option.some.inj hr
 simp [FinQ, hx3a, hx3b, hx3c, u4_0]
def kp44 : Keep := fun i => if i = 4 then ⟨[1, 3], [1], []⟩ else ⟨[], [], []⟩
theorem w44 {T : Tab} (hO : T.own = fun _ => []) (hT54 : T 54 = some G54) (a0 : Tapi_Bits) (x : Bool) (hr : Lref18_Valid a0 = some x) : ∃ kp fl n, execFn tt T G kp fl n Try.f44 (E44 a0) = some (R44 a0 x) := by
 simp only [E44, R44]
 refine fnE (kp := kp44) (w := false) body44 (by simp) ?_
 unfold c44
 rw [Try.ntmps44]
 unfold Lref18_Valid at hr
 refine ee_seq_reg rfl (by simp [-Int.natCast_tdiv_eq_ediv, Nat.add_assoc, ]; rfl) ?_
 refine ee_assoc ?_
 by_cases c7 : a0.2 < 0
 ·skip
  refine ee_seq_reg rfl (by simp [-Int.natCast_tdiv_eq_ediv, Nat.add_assoc, c7]; rfl) ?_
  rw [if_pos] at hr
  rotate_left
  ·simp [-Int.natCast_tdiv_eq_ediv, Nat.add_assoc, c7]
  refine ee_seq_condT (by simp [-Int.natCast_tdiv_eq_ediv, Nat.add_assoc, bV, c7]) ?_
  refine ee_assoc ?_
  refine ee_seq_reg rfl (by simp [-Int.natCast_tdiv_eq_ediv, Nat.add_assoc, c7]; rfl) ?_
  refine ee_seq_ret ?_
  obtain rfl := Option.some.inj hr
  simp [-Int.natCast_tdiv_eq_ediv, Nat.add_assoc, FinQ, c7]
 ·skip
  by_cases c8 : 1600000 < a0.2
  ·skip
   refine ee_seq_reg rfl (by simp [-Int.natCast_tdiv_eq_ediv, Nat.add_assoc, c7, c8]; rfl) ?_
   rw [if_pos] at hr
   rotate_left
   ·simp [-Int.natCast_tdiv_eq_ediv, Nat.add_assoc, c7, c8]
   refine ee_seq_condT (by simp [-Int.natCast_tdiv_eq_ediv, Nat.add_assoc, bV, c7, c8]) ?_
   refine ee_assoc ?_
   refine ee_seq_reg rfl (by simp [-Int.natCast_tdiv_eq_ediv, Nat.add_assoc, c7, c8]; rfl) ?_
   refine ee_seq_ret ?_
   obtain rfl := Option.some.inj hr
   simp [-Int.natCast_tdiv_eq_ediv, Nat.add_assoc, FinQ, c7, c8]
  ·skip
   refine ee_seq_reg rfl (by simp [-Int.natCast_tdiv_eq_ediv, Nat.add_assoc, c7, c8]; rfl) ?_
   by_cases c9 : (a0.1.length : Int) = IntKind.i64.wrap ((IntKind.i64.wrap (a0.2 + 7)).tdiv 8)
   ·skip
    have c9N := c9
    try simp at c9N
    rw [if_neg] at hr
    rotate_left
    ·simp [-Int.natCast_tdiv_eq_ediv, Nat.add_assoc, c7, c8, eq_true c9, eq_true c9N]
    refine ee_seq_condF (by simp [-Int.natCast_tdiv_eq_ediv, Nat.add_assoc, bV, c7, c8, eq_true c9, eq_true c9N]) ?_
    refine ee_seq_skip ?_
    refine ee_assoc ?_
    refine ee_seq_reg rfl (by simp [-Int.natCast_tdiv_eq_ediv, Nat.add_assoc, c7, c8, eq_true c9, eq_true c9N]; rfl) ?_
    refine ee_seq_block ?_
    refine ee_loop (kq := ⟨[1, 3], [1], []⟩) (H := fun (s : Int) => match s with | p4 => (⟨(und 1 ++ ([.ptr 1 0 0 0 2] ++ (und 1 ++ ([.one (.v (.int .i64 p4))] ++ (und 31)))) : List PV), ([(1, ⟨0, 2, [[.slice .no (intsR .u8 a0.1), .v (.int .i64 a0.2)]], false, false⟩)] : Boxes)⟩ : ASt)) (by kernel_rfl) hr (by simp [-Int.natCast_tdiv_eq_ediv, Nat.add_assoc, und, List.replicate, c7, c8, eq_true c9, eq_true c9N]) ?_
    rintro p4 x15r hr15
    simp only [Lref18_Valid_s1] at hr15
    unfold b44_1
    simp only [und, List.replicate, List.cons_append, List.nil_append]
    refine ee_assoc ?_
    refine ee_seq_reg rfl (by simp [-Int.natCast_tdiv_eq_ediv, Nat.add_assoc, c7, c8, eq_true c9, eq_true c9N]; rfl) ?_
    by_cases c16 : p4 < IntKind.i64.wrap (8 * (a0.1.length : Int))
    ·skip
     have c16N := c16
     try simp at c16N
     first | have c16M : (_ = _) = True := eq_true c16N | have c16M := c16N
     rw [if_pos] at hr15
     rotate_left
     ·simp [-Int.natCast_tdiv_eq_ediv, Nat.add_assoc, c7, c8, eq_true c9, eq_true c9N, c16, c16M]
     refine ee_seq_condT (by simp [-Int.natCast_tdiv_eq_ediv, Nat.add_assoc, bV, c7, c8, eq_true c9, eq_true c9N, c16, c16M]) ?_
     refine ee_seq_skip ?_
     refine ee_seq_block ?_
     obtain ⟨y17, hy17, hr15⟩ := bs hr15
     have ehy17 := G54_eq hy17
     simp only [E54, R54, nf, nfs] at ehy17
     refine ee_seq_reg rfl (by simp [-Int.natCast_tdiv_eq_ediv, Nat.add_assoc, hO, hT54, ehy17, c7, c8, eq_true c9, eq_true c9N, c16, c16M]; rfl) ?_
     by_cases c18 : y17 = true
     ·skip
      rw [if_pos c18] at hr15
      refine ee_condT (by simp [-Int.natCast_tdiv_eq_ediv, Nat.add_assoc, bV, c7, c8, eq_true c9, eq_true c9N, c16, c16M, c18]) ?_
      refine ee_seq_reg rfl (by simp [-Int.natCast_tdiv_eq_ediv, Nat.add_assoc, c7, c8, eq_true c9, eq_true c9N, c16, c16M, c18]; rfl) ?_
      refine ee_ret ?_
      obtain rfl := Option.some.inj hr15
      simp only [pq, reduceCtorEq]
      rintro rfl
      simp [-Int.natCast_tdiv_eq_ediv, Nat.add_assoc, FinQ, c7, c8, eq_true c9, eq_true c9N, c16, c16M, c18, c16N]
     ·skip
      rw [if_neg c18] at hr15
      refine ee_condF (by simp [-Int.natCast_tdiv_eq_ediv, Nat.add_assoc, bV, c7, c8, eq_true c9, eq_true c9N, c16, c16M, c18]) ?_
      refine ee_skip ?_
      simp only [pq, reduceCtorEq]
      refine ee_reg rfl (by simp [-Int.natCast_tdiv_eq_ediv, Nat.add_assoc, c7, c8, eq_true c9, eq_true c9N, c16, c16M, c18]; rfl) ?_
      obtain rfl := Option.some.inj hr15
      simp only [pq, reduceCtorEq]
      simp [-Int.natCast_tdiv_eq_ediv, Nat.add_assoc, und, List.replicate, Nat.add_assoc, c7, c8, eq_true c9, eq_true c9N, c16, c16M, c18]
    ·skip
     have c16N := c16
     try simp at c16N
     first | have c16M : (_ = _) = True := eq_true c16N | have c16M := c16N
     rw [if_neg] at hr15
     rotate_left
     ·simp [-Int.natCast_tdiv_eq_ediv, Nat.add_assoc, c7, c8, eq_true c9, eq_true c9N, c16, c16M]
     refine ee_seq_condF (by simp [-Int.natCast_tdiv_eq_ediv, Nat.add_assoc, bV, c7, c8, eq_true c9, eq_true c9N, c16, c16M]) ?_
     refine ee_seq_exit ?_
     obtain ⟨r19, q19, rfl⟩ := ms hr15
     simp only [pq, reduceCtorEq]
     rintro rfl
     try simp only [pq, reduceCtorEq]
     unfold Lref18_Valid_k1 at q19
     refine ee_seq_reg rfl (by simp [-Int.natCast_tdiv_eq_ediv, Nat.add_assoc, c7, c8, eq_true c9, eq_true c9N, c16, c16M]; rfl) ?_
     refine ee_ret ?_
     obtain rfl := Option.some.inj q19
     simp [-Int.natCast_tdiv_eq_ediv, Nat.add_assoc, FinQ, c7, c8, eq_true c9, eq_true c9N, c16, c16M, c16N]
   ·skip
    have c9N := c9
    try simp at c9N
    first | have c9M : (_ = _) = True := eq_true c9N | have c9M := c9N
    rw [if_pos] at hr
    rotate_left
    ·simp [-Int.natCast_tdiv_eq_ediv, Nat.add_assoc, c7, c8, c9, c9M]
    refine ee_seq_condT (by simp [-Int.natCast_tdiv_eq_ediv, Nat.add_assoc, bV, c7, c8, c9, c9M]) ?_
    refine ee_assoc ?_
    refine ee_seq_reg rfl (by simp [-Int.natCast_tdiv_eq_ediv, Nat.add_assoc, c7, c8, c9, c9M]; rfl) ?_
    refine ee_seq_ret ?_
    obtain rfl := Option.some.inj hr
    simp [-Int.natCast_tdiv_eq_ediv, Nat.add_assoc, FinQ, c7, c8, c9, c9M, c9N]
def kp55 : Keep := fun i => if i = 3 then ⟨[1, 2, 3, 7, 8], [3], []⟩ else if i = 1000004 then ⟨[1, 2, 3, 7, 8], [3], []⟩ else ⟨[], [], []⟩
theorem w55 {T : Tab} (hO : T.own = fun _ => []) (hT54 : T 54 = some G54) (a0 : Tapi_Bits) (a1 : Int) (a2 : Int) (x : Int) (hr : Lref18_number a0 a1 a2 = some x) : ∃ kp fl n, execFn tt T G kp fl n Try.f55 (E55 (a0, a1, a2)) = some (R55 (a0, a1, a2) x) := by
 simp only [E55, R55]
 refine fnE (kp := kp55) (w := false) body55 (by simp) ?_
 unfold c55
 rw [Try.ntmps55]
 unfold Lref18_number at hr
 refine ee_seq_reg rfl (by simp []; rfl) ?_
 refine ee_seq_reg rfl (by simp []; rfl) ?_
 refine ee_assoc ?_
 refine ee_seq_reg rfl (by simp []; rfl) ?_
 refine ee_seq_block ?_
 refine ee_loop (kq := ⟨[1, 2, 3, 7, 8], [3], []⟩) (H := fun (s : Int × Int) => match s with | (p7, p8) => (⟨(und 1 ++ ([.one (.v (.int .i64 a1)), .one (.v (.int .i64 a2)), .ptr 3 0 0 0 2] ++ (und 3 ++ ([.one (.v (.int .u64 p7)), .one (.v (.int .i64 p8))] ++ (und 16)))) : List PV), ([(3, ⟨0, 2, [[.slice .no (intsR .u8 a0.1), .v (.int .i64 a0.2)]], false, false⟩)] : Boxes)⟩ : ASt)) (by kernel_rfl) hr (by simp [und, List.replicate, ]) ?_
 rintro ⟨p7, p8⟩ x20r hr20
 simp only [Lref18_number_s1] at hr20
 unfold b55_1
 simp only [und, List.replicate, List.cons_append, List.nil_append]
 refine ee_assoc ?_
 refine ee_seq_reg rfl (by simp []; rfl) ?_
 by_cases c21 : p8 < IntKind.i64.wrap (a1 + a2)
 ·skip
  rw [if_pos] at hr20
  rotate_left
  ·simp [c21]
  refine ee_seq_condT (by simp [bV, c21]) ?_
  refine ee_seq_skip ?_
  refine ee_seq_block ?_
  refine ee_seq_reg rfl (by simp [c21]; rfl) ?_
  obtain ⟨y22, hy22, hr20⟩ := bs hr20
  have ehy22 := G54_eq hy22
  simp only [E54, R54, nf, nfs] at ehy22
  refine ee_seq_reg rfl (by simp [hO, hT54, ehy22, c21]; rfl) ?_
  refine ee_J hr20 (.normal) (fun (s : Int) => match s with | p12 => (⟨(und 1 ++ ([.one (.v (.int .i64 a1)), .one (.v (.int .i64 a2)), .ptr 3 0 0 0 2] ++ (und 3 ++ ([.one (.v (.int .u64 p12)), .one (.v (.int .i64 p8))] ++ (und 16)))) : List PV), ([(3, ⟨0, 2, [[.slice .no (intsR .u8 a0.1), .v (.int .i64 a0.2)]], false, false⟩)] : Boxes)⟩ : ASt)) (fun (s : Int) => match s with | p12 => Lref18_number_k2 p8 p12) ?_ ?_
  ·skip
   rintro p12 hk24
   change Lref18_number_k2 p8 p12 = _ at hk24
   simp only [pq, reduceCtorEq]
   simp only [und, List.replicate, List.cons_append, List.nil_append]
   unfold Lref18_number_k2 at hk24
   refine ee_regJ rfl (kq := ⟨[1, 2, 3, 7, 8], [3], []⟩) rfl (by simp [joinSt, c21]; rfl) (by simp [c21]; rfl) ?_
   obtain rfl := Option.some.inj hk24
   simp only [pq, reduceCtorEq]
   simp [und, List.replicate, Nat.add_assoc, c21]
  ·skip
   intro J24
   simp only [pq, reduceCtorEq] at J24
   by_cases c25 : y22 = true
   ·skip
    rw [if_pos c25] at hr20
    refine ee_condT (by simp [bV, c21, c25]) ?_
    refine ee_reg rfl (by simp [c21, c25]; rfl) ?_
    simp only [pq, reduceCtorEq]
    exact ee_join (key := 1000004) (kq := ⟨[1, 2, 3, 7, 8], [3], []⟩) rfl rfl rfl (by simp [und, List.replicate, c21, c25]) (J24 (IntKind.u64.wrap ((IntKind.u64.wrap (p7 * 2)) + 1)) hr20)
   ·skip
    rw [if_neg c25] at hr20
    refine ee_condF (by simp [bV, c21, c25]) ?_
    refine ee_skip ?_
    simp only [pq, reduceCtorEq]
    exact ee_join (key := 1000004) (kq := ⟨[1, 2, 3, 7, 8], [3], []⟩) rfl rfl rfl (by simp [und, List.replicate, c21, c25]) (J24 (IntKind.u64.wrap (p7 * 2)) hr20)
 ·skip
  rw [if_neg] at hr20
  rotate_left
  ·simp [c21]
  refine ee_seq_condF (by simp [bV, c21]) ?_
  refine ee_seq_exit ?_
  obtain ⟨r26, q26, rfl⟩ := ms hr20
  simp only [pq, reduceCtorEq]
  rintro rfl
  try simp only [pq, reduceCtorEq]
  unfold Lref18_number_k1 at q26
  refine ee_seq_reg rfl (by simp [c21]; rfl) ?_
  refine ee_ret ?_
  obtain rfl := Option.some.inj q26
  simp [FinQ, c21]
def kp37 : Keep := fun i => if i = 1000010 then ⟨[1, 2, 3, 9], [3], []⟩ else if i = 6 then ⟨[1, 2, 3, 9], [3], []⟩ else ⟨[], [], []⟩
theorem w37 {T : Tab} (hO : T.own = fun _ => []) (hT44 : T 44 = some G44) (hT54 : T 54 = some G54) (hT55 : T 55 = some G55) (a0 : Tapi_Bits) (a1 : Int) (a2 : Int) (x : Int × Int × Int) (hr : Lref18_ReadRice a0 a1 a2 = some x) : ∃ kp fl n, execFn tt T G kp fl n Try.f37 (E37 (a0, a1, a2)) = some (R37 (a0, a1, a2) x) := by
 simp only [E37, R37]
 refine fnE (kp := kp37) (w := false) body37 (by simp) ?_
 unfold c37
 rw [Try.ntmps37]
 unfold Lref18_ReadRice at hr
 refine ee_seq_reg rfl (by simp []; rfl) ?_
 refine ee_assoc ?_
 obtain ⟨y14, hy14, hr⟩ := bs hr
 have ehy14 := G44_eq hy14
 simp only [E44, R44, nf, nfs] at ehy14
 refine ee_seq_reg rfl (by simp [hO, hT44, ehy14]; rfl) ?_
 by_cases c15 : y14 = true
 ·skip
  rw [if_neg (not_not_intro c15)] at hr
  refine ee_seq_condF (by simp [bV, c15]) ?_
  refine ee_seq_skip ?_
  refine ee_assoc ?_
  by_cases c16 : a2 < 0
  ·skip
   refine ee_seq_reg rfl (by simp [c15, c16]; rfl) ?_
   rw [if_pos] at hr
   rotate_left
   ·simp [c15, c16]
   refine ee_seq_condT (by simp [bV, c15, c16]) ?_
   refine ee_assoc ?_
   refine ee_seq_reg rfl (by simp [c15, c16]; rfl) ?_
   refine ee_seq_ret ?_
   obtain rfl := Option.some.inj hr
   simp [FinQ, c15, c16]
  ·skip
   by_cases c17 : 32 < a2
   ·skip
    refine ee_seq_reg rfl (by simp [c15, c16, c17]; rfl) ?_
    rw [if_pos] at hr
    rotate_left
    ·simp [c15, c16, c17]
    refine ee_seq_condT (by simp [bV, c15, c16, c17]) ?_
    refine ee_assoc ?_
    refine ee_seq_reg rfl (by simp [c15, c16, c17]; rfl) ?_
    refine ee_seq_ret ?_
    obtain rfl := Option.some.inj hr
    simp [FinQ, c15, c16, c17]
   ·skip
    by_cases c18 : a1 < 0
    ·skip
     refine ee_seq_reg rfl (by simp [c15, c16, c17, c18]; rfl) ?_
     rw [if_pos] at hr
     rotate_left
     ·simp [c15, c16, c17, c18]
     refine ee_seq_condT (by simp [bV, c15, c16, c17, c18]) ?_
     refine ee_assoc ?_
     refine ee_seq_reg rfl (by simp [c15, c16, c17, c18]; rfl) ?_
     refine ee_seq_ret ?_
     obtain rfl := Option.some.inj hr
     simp [FinQ, c15, c16, c17, c18]
    ·skip
     refine ee_seq_reg rfl (by simp [c15, c16, c17, c18]; rfl) ?_
     by_cases c19 : a0.2 < a1
     ·skip
      rw [if_pos] at hr
      rotate_left
      ·simp [c15, c16, c17, c18, c19]
      refine ee_seq_condT (by simp [bV, c15, c16, c17, c18, c19]) ?_
      refine ee_assoc ?_
      refine ee_seq_reg rfl (by simp [c15, c16, c17, c18, c19]; rfl) ?_
      refine ee_seq_ret ?_
      obtain rfl := Option.some.inj hr
      simp [FinQ, c15, c16, c17, c18, c19]
     ·skip
      rw [if_neg] at hr
      rotate_left
      ·simp [c15, c16, c17, c18, c19]
      refine ee_seq_condF (by simp [bV, c15, c16, c17, c18, c19]) ?_
      refine ee_seq_skip ?_
      refine ee_seq_reg rfl (by simp [c15, c16, c17, c18, c19]; rfl) ?_
      refine ee_seq_block ?_
      refine ee_J hr (.exit 0) (fun (s : Int) => match s with | p7 => (⟨(und 1 ++ ([.one (.v (.int .i64 a1)), .one (.v (.int .i64 a2)), .ptr 3 0 0 0 2] ++ (und 5 ++ ([.one (.v (.int .i64 p7))] ++ (und 63)))) : List PV), ([(3, ⟨0, 2, [[.slice .no (intsR .u8 a0.1), .v (.int .i64 a0.2)]], false, false⟩)] : Boxes)⟩ : ASt)) (fun (s : Int) => match s with | p7 => Lref18_ReadRice_k1 a0 a1 p7 a2) ?_ ?_
      ·skip
       rintro p7 hk29
       change Lref18_ReadRice_k1 a0 a1 p7 a2 = _ at hk29
       simp only [pq, reduceCtorEq]
       simp only [und, List.replicate, List.cons_append, List.nil_append]
       unfold Lref18_ReadRice_k1 at hk29
       refine ee_assoc ?_
       refine ee_seq_regJ rfl (kq := ⟨[1, 2, 3, 9], [3], []⟩) rfl (by simp [joinSt, c15, c16, c17, c18, c19]; rfl) (by simp [c15, c16, c17, c18, c19]; rfl) ?_
       by_cases c30 : IntKind.i64.wrap ((IntKind.i64.wrap (a0.2 - a1)) - p7) < IntKind.i64.wrap (1 + a2)
       ·skip
        rw [if_pos c30] at hk29
        refine ee_seq_condT (by simp [bV, c15, c16, c17, c18, c19, c30]) ?_
        refine ee_assoc ?_
        refine ee_seq_reg rfl (by simp [c15, c16, c17, c18, c19, c30]; rfl) ?_
        refine ee_seq_ret ?_
        obtain rfl := Option.some.inj hk29
        simp [FinQ, c15, c16, c17, c18, c19, c30]
       ·skip
        rw [if_neg c30] at hk29
        refine ee_seq_condF (by simp [bV, c15, c16, c17, c18, c19, c30]) ?_
        refine ee_seq_skip ?_
        obtain ⟨_, u31, hk29⟩ := bs hk29
        have u31_0 := chk_some u31
        obtain ⟨y32, hy32, hk29⟩ := bs hk29
        have ehy32 := G55_eq hy32
        simp only [E55, R55, nf, nfs] at ehy32
        refine ee_seq_draw rfl (by simp [u31_0, hO, hT55, ehy32, c15, c16, c17, c18, c19, c30]; first | exact ⟨rfl, rfl⟩ | rfl) (by kernel_rfl) ?_
        refine ee_ret ?_
        obtain rfl := Option.some.inj hk29
        simp [FinQ, u31_0, hO, hT55, ehy32, c15, c16, c17, c18, c19, c30]
      ·skip
       intro J29
       simp only [pq, reduceCtorEq] at J29
       refine ee_loop (kq := ⟨[1, 2, 3, 9], [3], []⟩) (H := fun (s : Int) => match s with | p7 => (⟨(und 1 ++ ([.one (.v (.int .i64 a1)), .one (.v (.int .i64 a2)), .ptr 3 0 0 0 2] ++ (und 5 ++ ([.one (.v (.int .i64 p7))] ++ (und 63)))) : List PV), ([(3, ⟨0, 2, [[.slice .no (intsR .u8 a0.1), .v (.int .i64 a0.2)]], false, false⟩)] : Boxes)⟩ : ASt)) (by kernel_rfl) hr (by simp [und, List.replicate, c15, c16, c17, c18, c19]) ?_
       rintro p7 x33r hr33
       simp only [Lref18_ReadRice_s1] at hr33
       unfold b37_1
       simp only [und, List.replicate, List.cons_append, List.nil_append]
       refine ee_assoc ?_
       by_cases c34 : IntKind.i64.wrap (a1 + p7) < a0.2
       ·skip
        rw [if_pos] at hr33
        rotate_left
        ·simp [c15, c16, c17, c18, c19, c34]
        obtain ⟨z35, hz35, hr33⟩ := bs hr33
        obtain ⟨y36, hy36, hz35⟩ := bs hz35
        have ehy36 := G54_eq hy36
        simp only [E54, R54, nf, nfs] at ehy36
        obtain rfl := Option.some.inj hz35
        refine ee_seq_reg rfl (by simp [hO, hT54, ehy36, c15, c16, c17, c18, c19, c34]; rfl) ?_
        by_cases c37 : y36 = true
        ·skip
         rw [if_pos] at hr33
         rotate_left
         ·simp [c15, c16, c17, c18, c19, c34, c37]
         refine ee_seq_condT (by simp [bV, c15, c16, c17, c18, c19, c34, c37]) ?_
         refine ee_seq_skip ?_
         refine ee_block ?_
         refine ee_seq_reg rfl (by simp [c15, c16, c17, c18, c19, c34, c37]; rfl) ?_
         refine ee_seq_reg rfl (by simp [c15, c16, c17, c18, c19, c34, c37]; rfl) ?_
         by_cases c38 : 65536 < IntKind.i64.wrap (p7 + 1)
         ·skip
          rw [if_pos] at hr33
          rotate_left
          ·simp [c15, c16, c17, c18, c19, c34, c37, c38]
          refine ee_condT (by simp [bV, c15, c16, c17, c18, c19, c34, c37, c38]) ?_
          refine ee_seq_reg rfl (by simp [c15, c16, c17, c18, c19, c34, c37, c38]; rfl) ?_
          refine ee_ret ?_
          obtain rfl := Option.some.inj hr33
          simp only [pq, reduceCtorEq]
          rintro rfl
          simp [FinQ, c15, c16, c17, c18, c19, c34, c37, c38]
         ·skip
          rw [if_neg] at hr33
          rotate_left
          ·simp [c15, c16, c17, c18, c19, c34, c37, c38]
          refine ee_condF (by simp [bV, c15, c16, c17, c18, c19, c34, c37, c38]) ?_
          refine ee_skip ?_
          obtain rfl := Option.some.inj hr33
          simp only [pq, reduceCtorEq]
          simp [und, List.replicate, Nat.add_assoc, c15, c16, c17, c18, c19, c34, c37, c38]
        ·skip
         rw [if_neg] at hr33
         rotate_left
         ·simp [c15, c16, c17, c18, c19, c34, c37]
         refine ee_seq_condF (by simp [bV, c15, c16, c17, c18, c19, c34, c37]) ?_
         refine ee_seq_exit ?_
         obtain ⟨r39, q39, rfl⟩ := ms hr33
         simp only [pq, reduceCtorEq]
         rintro rfl
         try simp only [pq, reduceCtorEq]
         exact ee_join (key := 1000010) (kq := ⟨[1, 2, 3, 9], [3], []⟩) rfl rfl rfl (by simp [und, List.replicate, c15, c16, c17, c18, c19, c34, c37]) (J29 p7 q39)
       ·skip
        rw [if_neg] at hr33
        rotate_left
        ·simp [c15, c16, c17, c18, c19, c34]
        obtain ⟨z40, hz40, hr33⟩ := bs hr33
        obtain rfl := Option.some.inj hz40
        refine ee_seq_reg rfl (by simp [c15, c16, c17, c18, c19, c34]; rfl) ?_
        rw [if_neg] at hr33
        rotate_left
        ·simp [c15, c16, c17, c18, c19, c34]
        refine ee_seq_condF (by simp [bV, c15, c16, c17, c18, c19, c34]) ?_
        refine ee_seq_exit ?_
        obtain ⟨r41, q41, rfl⟩ := ms hr33
        simp only [pq, reduceCtorEq]
        rintro rfl
        try simp only [pq, reduceCtorEq]
        exact ee_join (key := 1000010) (kq := ⟨[1, 2, 3, 9], [3], []⟩) rfl rfl rfl (by simp [und, List.replicate, c15, c16, c17, c18, c19, c34]) (J29 p7 q41)
 ·skip
  rw [if_pos c15] at hr
  refine ee_seq_condT (by simp [bV, c15]) ?_
  refine ee_assoc ?_
  refine ee_seq_reg rfl (by simp [c15]; rfl) ?_
  refine ee_seq_ret ?_
  obtain rfl := Option.some.inj hr
  simp [FinQ, c15]
def kp38 : Keep := fun i => ⟨[], [], []⟩
theorem w38 {T : Tab} (hO : T.own = fun _ => []) (hT44 : T 44 = some G44) (hT55 : T 55 = some G55) (a0 : Tapi_Bits) (a1 : Int) (a2 : Int) (x : Int × Int × Int) (hr : Lref18_Read a0 a1 a2 = some x) : ∃ kp fl n, execFn tt T G kp fl n Try.f38 (E38 (a0, a1, a2)) = some (R38 (a0, a1, a2) x) := by
 simp only [E38, R38]
 refine fnE (kp := kp38) (w := false) body38 (by simp) ?_
 unfold c38
 rw [Try.ntmps38]
 unfold Lref18_Read at hr
 refine ee_seq_reg rfl (by simp []; rfl) ?_
 refine ee_seq_block ?_
 obtain ⟨y3, hy3, hr⟩ := bs hr
 have ehy3 := G44_eq hy3
 simp only [E44, R44, nf, nfs] at ehy3
 refine ee_seq_reg rfl (by simp [hO, hT44, ehy3]; rfl) ?_
 by_cases c4 : y3 = true
 ·skip
  rw [if_neg (not_not_intro c4)] at hr
  refine ee_condF (by simp [bV, c4]) ?_
  by_cases c5 : a2 < 0
  ·skip
   refine ee_seq_reg rfl (by simp [c4, c5]; rfl) ?_
   rw [if_pos] at hr
   rotate_left
   ·simp [c4, c5]
   refine ee_condT (by simp [bV, c4, c5]) ?_
   refine ee_seq_reg rfl (by simp [c4, c5]; rfl) ?_
   refine ee_ret ?_
   obtain rfl := Option.some.inj hr
   simp [FinQ, c4, c5]
  ·skip
   by_cases c6 : 64 < a2
   ·skip
    refine ee_seq_reg rfl (by simp [c4, c5, c6]; rfl) ?_
    rw [if_pos] at hr
    rotate_left
    ·simp [c4, c5, c6]
    refine ee_condT (by simp [bV, c4, c5, c6]) ?_
    refine ee_seq_reg rfl (by simp [c4, c5, c6]; rfl) ?_
    refine ee_ret ?_
    obtain rfl := Option.some.inj hr
    simp [FinQ, c4, c5, c6]
   ·skip
    by_cases c7 : a1 < 0
    ·skip
     refine ee_seq_reg rfl (by simp [c4, c5, c6, c7]; rfl) ?_
     rw [if_pos] at hr
     rotate_left
     ·simp [c4, c5, c6, c7]
     refine ee_condT (by simp [bV, c4, c5, c6, c7]) ?_
     refine ee_seq_reg rfl (by simp [c4, c5, c6, c7]; rfl) ?_
     refine ee_ret ?_
     obtain rfl := Option.some.inj hr
     simp [FinQ, c4, c5, c6, c7]
    ·skip
     refine ee_seq_reg rfl (by simp [c4, c5, c6, c7]; rfl) ?_
     by_cases c8 : a0.2 < a1
     ·skip
      rw [if_pos] at hr
      rotate_left
      ·simp [c4, c5, c6, c7, c8]
      refine ee_condT (by simp [bV, c4, c5, c6, c7, c8]) ?_
      refine ee_seq_reg rfl (by simp [c4, c5, c6, c7, c8]; rfl) ?_
      refine ee_ret ?_
      obtain rfl := Option.some.inj hr
      simp [FinQ, c4, c5, c6, c7, c8]
     ·skip
      rw [if_neg] at hr
      rotate_left
      ·simp [c4, c5, c6, c7, c8]
      refine ee_condF (by simp [bV, c4, c5, c6, c7, c8]) ?_
      refine ee_seq_reg rfl (by simp [c4, c5, c6, c7, c8]; rfl) ?_
      by_cases c9 : IntKind.i64.wrap (a0.2 - a1) < a2
      ·skip
       rw [if_pos c9] at hr
       refine ee_condT (by simp [bV, c4, c5, c6, c7, c8, c9]) ?_
       refine ee_seq_reg rfl (by simp [c4, c5, c6, c7, c8, c9]; rfl) ?_
       refine ee_ret ?_
       obtain rfl := Option.some.inj hr
       simp [FinQ, c4, c5, c6, c7, c8, c9]
      ·skip
       rw [if_neg c9] at hr
       refine ee_condF (by simp [bV, c4, c5, c6, c7, c8, c9]) ?_
       refine ee_skip ?_
       simp only [pq, reduceCtorEq]
       obtain ⟨y10, hy10, hr⟩ := bs hr
       have ehy10 := G55_eq hy10
       simp only [E55, R55, nf, nfs] at ehy10
       refine ee_seq_reg rfl (by simp [hO, hT55, ehy10, c4, c5, c6, c7, c8, c9]; rfl) ?_
       refine ee_ret ?_
       obtain rfl := Option.some.inj hr
       simp [FinQ, hO, hT55, ehy10, c4, c5, c6, c7, c8, c9]
 ·skip
  rw [if_pos c4] at hr
  refine ee_condT (by simp [bV, c4]) ?_
  refine ee_seq_reg rfl (by simp [c4]; rfl) ?_
  refine ee_ret ?_
  obtain rfl := Option.some.inj hr
  simp [FinQ, c4]
end Go.Proofs.Ytmjbklblgpnagaa
