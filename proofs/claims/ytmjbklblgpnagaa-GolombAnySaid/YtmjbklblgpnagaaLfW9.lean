import Derived.Test.YtmjbklblgpnagaaLfK
import Derived.Test.YtmjbklblgpnagaaCode
import Derived.Test.YtmjbklblgpnagaaBl
namespace Go.Proofs.Ytmjbklblgpnagaa
open Go.RowKit
open Go.Av
open Go.Lc
set_option maxRecDepth 100000
set_option linter.unusedSimpArgs false
set_option linter.unusedVariables false
set_option maxHeartbeats 4000000
variable {G : Glob}
def kp11 : Keep := fun i => if i = 12 then ⟨[2, 5, 11, 12, 13, 15, 16, 17, 60, 61], [5, 13], []⟩ else ⟨[], [], []⟩
theorem w11 {T : Tab} (hO : T.own = fun _ => []) (hT12 : T 12 = some G12) (hT16 : T 16 = some G16) (hT17 : T 17 = some G17) (hT24 : T 24 = some G24) (a0 : (Arr 2)) (a1 : (List (List Int))) (a2 : (List (List Int))) (a3 : Int) (a4 : Int) (x : Bool) (hr : Llaw19_GolombAny a0 a1 a2 a3 a4 = some x) : ∃ kp fl n, execFn tt T G kp fl n Try.f11 (E11 (a0, a1, a2, a3, a4)) = some (R11 (a0, a1, a2, a3, a4) x) := by
 simp only [E11, R11]
 refine fnE (kp := kp11) (w := false) body11 (by simp) ?_
 unfold c11
 rw [Try.ntmps11]
 unfold Llaw19_GolombAny at hr
 refine ee_seq_reg rfl (by simp []; rfl) ?_
 refine ee_assoc ?_
 obtain ⟨y19, hy19, hr⟩ := bs hr
 have ehy19 := G12_eq hy19
 simp only [E12, R12, nf, nfs] at ehy19
 refine ee_seq_reg rfl (by simp [hO, hT12, ehy19]; rfl) ?_
 by_cases c20 : y19 = true
 ·skip
  rw [if_neg (not_not_intro c20)] at hr
  refine ee_seq_condF (by simp [bV, c20]) ?_
  refine ee_seq_skip ?_
  refine ee_assoc ?_
  obtain ⟨y21, hy21, hr⟩ := bs hr
  have ehy21 := G16_eq hy21
  simp only [E16, R16, nf, nfs] at ehy21
  by_cases c22 : y21 = true
  ·skip
   rw [if_neg] at hr
   rotate_left
   ·simp [c20, c22]
   obtain ⟨z23, hz23, hr⟩ := bs hr
   obtain ⟨y24, hy24, hz23⟩ := bs hz23
   have ehy24 := G16_eq hy24
   simp only [E16, R16, nf, nfs] at ehy24
   obtain rfl := Option.some.inj hz23
   refine ee_seq_reg rfl (by simp [hO, hT16, ehy21, ehy24, c20, c22]; rfl) ?_
   by_cases c25 : y24 = true
   ·skip
    rw [if_neg] at hr
    rotate_left
    ·simp [c20, c22, c25]
    refine ee_seq_condF (by simp [bV, c20, c22, c25]) ?_
    refine ee_seq_skip ?_
    refine ee_seq_reg rfl (by simp [c20, c22, c25]; rfl) ?_
    obtain ⟨y26, hy26, hr⟩ := bs hr
    have ehy26 := G17_eq hy26
    simp only [E17, R17, nf, nfs] at ehy26
    refine ee_seq_reg rfl (by simp [hO, hT17, ehy26, c20, c22, c25]; rfl) ?_
    refine ee_assoc ?_
    refine ee_seq_reg rfl (by simp [c20, c22, c25]; rfl) ?_
    by_cases c27 : y26.2 = 0
    ·skip
     rw [if_neg (not_not_intro c27)] at hr
     refine ee_seq_condF (by simp [bV, c20, c22, c25, eq_true c27]) ?_
     refine ee_seq_skip ?_
     obtain ⟨y28, hy28, hr⟩ := bs hr
     have ehy28 := G24_eq hy28
     simp only [E24, R24, nf, nfs] at ehy28
     refine ee_seq_reg rfl (by simp [hO, hT24, ehy28, c20, c22, c25, eq_true c27]; rfl) ?_
     refine ee_seq_reg rfl (by simp [c20, c22, c25, eq_true c27]; rfl) ?_
     refine ee_assoc ?_
     refine ee_seq_reg rfl (by simp [c20, c22, c25, eq_true c27]; rfl) ?_
     refine ee_seq_block ?_
     refine ee_loop (kq := ⟨[2, 5, 11, 12, 13, 15, 16, 17, 60, 61], [5, 13], []⟩) (H := fun (s : Bool × Int) => match s with | (p13, p14) => (⟨(und 2 ++ ([.one (.slice .no (List.map eS_I_u8 a2))] ++ (und 2 ++ ([.ptr 5 0 0 0 2] ++ (und 5 ++ ([.one (.v (.int .i64 (IntKind.i64.wrap (1 + (IntKind.i64.wrap ((a3).tmod 20)))))), .one (.v (.int .u64 (IntKind.u64.wrap (1 + (IntKind.u64.wrap (a4)))))), .ptr 13 0 0 0 2] ++ (und 1 ++ ([.one (.v (.bool y28.1)), .one (.v (.int .i64 y28.2)), .one (.v (.bool p13))] ++ (und 42 ++ ([.one (.v (.int .i64 (a2.length : Int))), .one (.v (.int .i64 p14))] ++ (und 29)))))))))) : List PV), ([(5, ⟨0, 2, [arC .u64 a0], false, false⟩), (13, ⟨0, 2, [[.v (.int .i64 y26.1.1), .slice .no (intsR .u8 y26.1.2)]], false, false⟩)] : Boxes)⟩ : ASt)) (by kernel_rfl) hr (by simp [und, List.replicate, c20, c22, c25, eq_true c27]) ?_
     rintro ⟨p13, p14⟩ x39r hr39
     simp only [Llaw19_GolombAny_s1] at hr39
     unfold b11_1
     simp only [und, List.replicate, List.cons_append, List.nil_append]
     refine ee_seq_reg rfl (by simp [c20, c22, c25, eq_true c27]; rfl) ?_
     by_cases c40 : p14 < (a2.length : Int)
     ·skip
      have c40N := c40
      try simp at c40N
      first | have c40M : (_ = _) = True := eq_true c40N | have c40M := c40N
      rw [if_pos] at hr39
      rotate_left
      ·simp [c20, c22, c25, eq_true c27, c40, c40M]
      refine ee_seq_condT (by simp [bV, c20, c22, c25, eq_true c27, c40, c40M]) ?_
      refine ee_seq_skip ?_
      refine ee_seq_block ?_
      refine ee_seq_reg rfl (by simp [c20, c22, c25, eq_true c27, c40, c40M]; rfl) ?_
      obtain ⟨_, u41, hr39⟩ := bs hr39
      obtain ⟨u41_0, u41_1, u41_2⟩ := chk_some u41
      have sf42 : (p14).toNat ≤ (IntKind.i64.wrap (p14 + 1)).toNat := by omega
      have sf43 : (IntKind.i64.wrap (p14 + 1)).toNat ≤ a2.length := by omega
      have sf44 : 0 ≤ IntKind.i64.wrap (p14 + 1) := by omega
      obtain ⟨y45, hy45, hr39⟩ := bs hr39
      have ehy45 := G24_eq hy45
      simp only [E24, R24, nf, nfs] at ehy45
      refine ee_seq_draw rfl (by simp [u41_0, u41_1, u41_2, sf42, sf43, sf44, hO, hT24, ehy45, c20, c22, c25, eq_true c27, c40, c40M]; first | exact ⟨rfl, rfl⟩ | rfl) (by kernel_rfl) ?_
      refine ee_assoc ?_
      refine ee_seq_reg rfl (by simp [c20, c22, c25, eq_true c27, c40, c40M]; rfl) ?_
      by_cases c46 : y45.2 = 0
      ·skip
       rw [if_neg (not_not_intro c46)] at hr39
       refine ee_seq_condF (by simp [bV, c20, c22, c25, eq_true c27, c40, c40M, eq_true c46]) ?_
       refine ee_seq_skip ?_
       by_cases c47 : p13 = true
       ·skip
        refine ee_reg rfl (by simp [c20, c22, c25, eq_true c27, c40, c40M, eq_true c46, c47]; rfl) ?_
        simp only [pq, reduceCtorEq]
        refine ee_reg rfl (by simp [c20, c22, c25, eq_true c27, c40, c40M, eq_true c46, c47]; rfl) ?_
        obtain rfl := Option.some.inj hr39
        simp only [pq, reduceCtorEq]
        simp [und, List.replicate, Nat.add_assoc, c20, c22, c25, eq_true c27, c40, c40M, eq_true c46, c47]
       ·skip
        refine ee_reg rfl (by simp [c20, c22, c25, eq_true c27, c40, c40M, eq_true c46, c47]; rfl) ?_
        simp only [pq, reduceCtorEq]
        refine ee_reg rfl (by simp [c20, c22, c25, eq_true c27, c40, c40M, eq_true c46, c47]; rfl) ?_
        obtain rfl := Option.some.inj hr39
        simp only [pq, reduceCtorEq]
        simp [und, List.replicate, Nat.add_assoc, c20, c22, c25, eq_true c27, c40, c40M, eq_true c46, c47]
      ·skip
       rw [if_pos c46] at hr39
       refine ee_seq_condT (by simp [bV, c20, c22, c25, eq_true c27, c40, c40M, c46]) ?_
       refine ee_assoc ?_
       refine ee_seq_reg rfl (by simp [c20, c22, c25, eq_true c27, c40, c40M, c46]; rfl) ?_
       refine ee_seq_ret ?_
       obtain rfl := Option.some.inj hr39
       simp only [pq, reduceCtorEq]
       rintro rfl
       simp [FinQ, c20, c22, c25, eq_true c27, c40, c40M, c46, c40N]
     ·skip
      have c40N := c40
      try simp at c40N
      first | have c40M : (_ = _) = True := eq_true c40N | have c40M := c40N
      rw [if_neg] at hr39
      rotate_left
      ·simp [c20, c22, c25, eq_true c27, c40, c40M]
      refine ee_seq_condF (by simp [bV, c20, c22, c25, eq_true c27, c40, c40M]) ?_
      refine ee_seq_exit ?_
      obtain ⟨r48, q48, rfl⟩ := ms hr39
      simp only [pq, reduceCtorEq]
      rintro rfl
      try simp only [pq, reduceCtorEq]
      unfold Llaw19_GolombAny_k1 at q48
      by_cases c49 : y28.2 = 0
      ·skip
       refine ee_seq_reg rfl (by simp [c20, c22, c25, eq_true c27, c40, c40M, eq_true c49]; rfl) ?_
       refine ee_ret ?_
       obtain rfl := Option.some.inj q48
       simp [FinQ, c20, c22, c25, eq_true c27, c40, c40M, eq_true c49, c40N]
      ·skip
       refine ee_seq_reg rfl (by simp [c20, c22, c25, eq_true c27, c40, c40M, c49]; rfl) ?_
       refine ee_ret ?_
       obtain rfl := Option.some.inj q48
       simp [FinQ, c20, c22, c25, eq_true c27, c40, c40M, c49, c40N]
    ·skip
     rw [if_pos c27] at hr
     refine ee_seq_condT (by simp [bV, c20, c22, c25, c27]) ?_
     refine ee_assoc ?_
     refine ee_seq_reg rfl (by simp [c20, c22, c25, c27]; rfl) ?_
     refine ee_seq_ret ?_
     obtain rfl := Option.some.inj hr
     simp [FinQ, c20, c22, c25, c27]
   ·skip
    rw [if_pos] at hr
    rotate_left
    ·simp [c20, c22, c25]
    refine ee_seq_condT (by simp [bV, c20, c22, c25]) ?_
    refine ee_assoc ?_
    refine ee_seq_reg rfl (by simp [c20, c22, c25]; rfl) ?_
    refine ee_seq_ret ?_
    obtain rfl := Option.some.inj hr
    simp [FinQ, c20, c22, c25]
  ·skip
   rw [if_pos] at hr
   rotate_left
   ·simp [c20, c22]
   obtain ⟨z50, hz50, hr⟩ := bs hr
   obtain rfl := Option.some.inj hz50
   refine ee_seq_reg rfl (by simp [hO, hT16, ehy21, c20, c22]; rfl) ?_
   rw [if_pos] at hr
   rotate_left
   ·simp [c20, c22]
   refine ee_seq_condT (by simp [bV, c20, c22]) ?_
   refine ee_assoc ?_
   refine ee_seq_reg rfl (by simp [c20, c22]; rfl) ?_
   refine ee_seq_ret ?_
   obtain rfl := Option.some.inj hr
   simp [FinQ, c20, c22]
 ·skip
  rw [if_pos c20] at hr
  refine ee_seq_condT (by simp [bV, c20]) ?_
  refine ee_assoc ?_
  refine ee_seq_reg rfl (by simp [c20]; rfl) ?_
  refine ee_seq_ret ?_
  obtain rfl := Option.some.inj hr
  simp [FinQ, c20]
end Go.Proofs.Ytmjbklblgpnagaa
