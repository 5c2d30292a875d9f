import Derived.Test.YtmjbklblgpnagaaLfK
import Derived.Test.YtmjbklblgpnagaaCode
import Derived.Test.YtmjbklblgpnagaaBl
namespace Go.Proofs.Ytmjbklblgpnagaa
open Go.RowKit
open Go.Av
open Go.Lc
set_option maxRecDepth 100000
set_option linter.unusedSimpArgs false
set_option linter.unusedVariables false
set_option maxHeartbeats 4000000
variable {G : Glob}
def kp49_12 : Keep := fun i => ⟨[], [], []⟩
theorem w49_12 {T : Tab} (hO : T.own = fun d => if d = 10 then [[1000001]] else []) (hT62 : T 62 = some G62_10) (hT63 : T 63 = some G63) (a0 : (List Int)) (x : (List Int)) (hr : Lslices_Sort_of__uint64_uint64 a0 = some x) : ∃ kp fl n, execFn tt T G kp fl n Try.f49 (E49_12 a0) = some (R49_12 a0 x) := by
 simp only [E49_12, R49_12]
 refine fnE (kp := kp49_12) (w := false) body49 (by simp) ?_
 unfold c49
 rw [Try.ntmps49]
 unfold Lslices_Sort_of__uint64_uint64 at hr
 refine ee_seq_reg rfl (by simp [-intsR_st, intsR_set]; rfl) ?_
 obtain ⟨y4, hy4, hr⟩ := bs hr
 have ehy4 := G63_eq hy4
 simp only [E63, R63, nf, nfs] at ehy4
 try simp only [intsR_set] at ehy4
 obtain ⟨y5, hy5, hr⟩ := bs hr
 have ehy5 := G62_10_eq hy5
 simp only [E62_10, R62_10, nf, nfs] at ehy5
 try simp only [intsR_set] at ehy5
 obtain ⟨_, u6, hr⟩ := bs hr
 have u6_0 := chk_some u6
 have ck7 := chunk_ints1 (k := .u64) u6_0
 refine ee_reg rfl (by simp [-intsR_st, intsR_set, hO, hT63, ehy4, hT62, ehy5, ck7, u6_0]; rfl) ?_
 obtain ⟨_, u8, hr⟩ := bs hr
 have u8_0 := chk_some u8
 try simp only [u6_0] at u8_0
 obtain rfl := Option.some.inj hr
 simp [-intsR_st, intsR_set, FinQ, hO, hT63, ehy4, hT62, ehy5, ck7, u6_0, u8_0]
def kp30 : Keep := fun i => if i = 3 then ⟨[2, 3, 4, 9, 12, 13, 14], [4, 28], [(9, none, 28, 1)]⟩ else ⟨[], [], []⟩
theorem w30 {T : Tab} (hO : T.own = fun d => if d = 31 then [[1000001]] else []) (hT47 : T 47 = some G47) (hT48 : T 48 = some G48) (hT49 : T 49 = some G49_12) (a0 : (Arr 2)) (a1 : (List (List Int))) (a2 : Int) (a3 : Int) (x : (List Int)) (hr : Lgolomb_values a0 a1 a2 a3 = some x) : ∃ kp fl n, execFn tt T G kp fl n Try.f30 (E30 (a0, a1, a2, a3)) = some (R30 (a0, a1, a2, a3) x) := by
 simp only [E30, R30]
 refine fnE (kp := kp30) (w := true) body30 (by simp) ?_
 unfold c30
 rw [Try.ntmps30]
 unfold Lgolomb_values at hr
 refine ee_seq_reg rfl (by simp []; rfl) ?_
 refine ee_seq_reg rfl (by simp []; rfl) ?_
 refine ee_assoc ?_
 refine ee_seq_reg rfl (by simp []; rfl) ?_
 refine ee_seq_block ?_
 refine ee_loop (kq := ⟨[2, 3, 4, 9, 12, 13, 14], [4, 28], [(9, none, 28, 1)]⟩) (H := fun (s : Int × (List Int)) => match s with | (p10, p11) => (⟨(und 2 ++ ([.one (.v (.int .i64 a2)), .one (.v (.int .u64 a3)), .ptr 4 0 0 0 2] ++ (und 4 ++ ([.one (.ms 28 0 0 (p11.length) 1)] ++ (und 2 ++ ([.one (.slice .no (List.map eS_I_u8 a1)), .one (.v (.int .i64 (a1.length : Int))), .one (.v (.int .i64 p10))] ++ (und 18)))))) : List PV), ([(4, ⟨0, 2, [arC .u64 a0], false, false⟩), (28, ⟨0, 1, intsR .u64 p11, false, true⟩)] : Boxes)⟩ : ASt)) (by kernel_rfl) hr (by simp [und, List.replicate, ]) ?_
 rintro ⟨p10, p11⟩ x29r hr29
 simp only [Lgolomb_values_s1] at hr29
 unfold b30_1
 simp only [und, List.replicate, List.cons_append, List.nil_append]
 refine ee_seq_reg rfl (by simp []; rfl) ?_
 by_cases c30 : p10 < (a1.length : Int)
 ·skip
  have c30N := c30
  try simp at c30N
  first | have c30M : (_ = _) = True := eq_true c30N | have c30M := c30N
  rw [if_pos] at hr29
  rotate_left
  ·simp [c30, c30M]
  refine ee_seq_condT (by simp [bV, c30, c30M]) ?_
  refine ee_seq_skip ?_
  refine ee_seq_block ?_
  obtain ⟨x31, hx31, hr29⟩ := bs hr29
  obtain ⟨hx31a, hx31b⟩ := idx_some hx31
  have hx31c := getE_of hx31b
  refine ee_seq_reg rfl (by simp [hx31a, hx31b, hx31c, c30, c30M]; rfl) ?_
  obtain ⟨y32, hy32, hr29⟩ := bs hr29
  have ehy32 := G48_eq hy32
  simp only [E48, R48, nf, nfs] at ehy32
  obtain ⟨y33, hy33, hr29⟩ := bs hr29
  have ehy33 := G47_eq hy33
  simp only [E47, R47, nf, nfs] at ehy33
  obtain ⟨_, u34, hr29⟩ := bs hr29
  have u34_0 := chk_some u34
  have n1_u34_0 : (p11.length + 1) * 8 ≤ 140737488355328 := by omega
  have n2_u34_0 : p11.length + 1 ≤ 9223372036854775807 := by omega
  refine ee_reg rfl (by simp [hO, hT48, ehy32, hT47, ehy33, n1_u34_0, n2_u34_0, c30, c30M]; rfl) ?_
  simp only [pq, reduceCtorEq]
  refine ee_reg rfl (by simp [c30, c30M]; rfl) ?_
  obtain rfl := Option.some.inj hr29
  simp only [pq, reduceCtorEq]
  simp [und, List.replicate, Nat.add_assoc, c30, c30M]
 ·skip
  have c30N := c30
  try simp at c30N
  first | have c30M : (_ = _) = True := eq_true c30N | have c30M := c30N
  rw [if_neg] at hr29
  rotate_left
  ·simp [c30, c30M]
  refine ee_seq_condF (by simp [bV, c30, c30M]) ?_
  refine ee_seq_exit ?_
  obtain ⟨r35, q35, rfl⟩ := ms hr29
  simp only [pq, reduceCtorEq]
  rintro rfl
  try simp only [pq, reduceCtorEq]
  unfold Lgolomb_values_k1 at q35
  obtain ⟨y36, hy36, q35⟩ := bs q35
  have ehy36 := G49_12_eq hy36
  simp only [E49_12, R49_12, nf, nfs] at ehy36
  obtain ⟨_, u37, q35⟩ := bs q35
  have u37_0 := chk_some u37
  have ck38 := chunk_ints1 (k := .u64) u37_0
  refine ee_seq_reg rfl (by simp [hO, hT49, ehy36, ck38, u37_0, c30, c30M]; rfl) ?_
  refine ee_seq_reg rfl (by simp [c30, c30M, u37_0]; rfl) ?_
  refine ee_ret ?_
  obtain rfl := Option.some.inj q35
  simp [FinQ, c30, c30M, u37_0, c30N]
def kp17 : Keep := fun i => if i = 8 then ⟨[2, 3, 4, 8, 10, 11, 34, 35, 36], [4, 8, 51, 1000000000033], [(11, none, 51, 1)]⟩ else if i = 1000013 then ⟨[2, 3, 4, 8, 10, 11, 34, 35, 36], [4, 8, 51, 1000000000033], []⟩ else ⟨[], [], []⟩
theorem w17 {T : Tab} (hO : T.own = fun _ => []) (hT13 : T 13 = some G13) (hT30 : T 30 = some G30) (a0 : (Arr 2)) (a1 : (List (List Int))) (a2 : Int) (a3 : Int) (x : Tapi_Filter × Int) (hr : Lgolomb_Build a0 a1 a2 a3 = some x) : ∃ kp fl n, execFn tt T G kp fl n Try.f17 (E17 (a0, a1, a2, a3)) = some (R17 (a0, a1, a2, a3) x) := by
 simp only [E17, R17]
 refine fnE (kp := kp17) (w := false) body17 (by simp) ?_
 unfold c17
 rw [Try.ntmps17]
 unfold Lgolomb_Build at hr
 refine ee_seq_reg rfl (by simp []; rfl) ?_
 refine ee_assoc ?_
 refine ee_seq_reg rfl (by simp []; rfl) ?_
 by_cases c25 : 4096 < (a1.length : Int)
 ·skip
  have c25N := c25
  try simp at c25N
  first | have c25M : (_ = _) = True := eq_true c25N | have c25M := c25N
  rw [if_pos c25] at hr
  refine ee_seq_condT (by simp [bV, c25, c25M]) ?_
  refine ee_assoc ?_
  refine ee_seq_reg rfl (by simp [c25, c25M]; rfl) ?_
  refine ee_seq_ret ?_
  obtain rfl := Option.some.inj hr
  simp [FinQ, c25, c25M, c25N]
 ·skip
  have c25N := c25
  try simp at c25N
  first | have c25M : (_ = _) = True := eq_true c25N | have c25M := c25N
  rw [if_neg c25] at hr
  refine ee_seq_condF (by simp [bV, c25, c25M]) ?_
  refine ee_seq_skip ?_
  refine ee_assoc ?_
  by_cases c26 : a3 < 1
  ·skip
   refine ee_seq_reg rfl (by simp [c25, c25M, c26]; rfl) ?_
   rw [if_pos] at hr
   rotate_left
   ·simp [c25, c25M, c26]
   refine ee_seq_condT (by simp [bV, c25, c25M, c26]) ?_
   refine ee_assoc ?_
   refine ee_seq_reg rfl (by simp [c25, c25M, c26]; rfl) ?_
   refine ee_seq_ret ?_
   obtain rfl := Option.some.inj hr
   simp [FinQ, c25, c25M, c26, c25N]
  ·skip
   by_cases c27 : 1099511627776 < a3
   ·skip
    refine ee_seq_reg rfl (by simp [c25, c25M, c26, c27]; rfl) ?_
    rw [if_pos] at hr
    rotate_left
    ·simp [c25, c25M, c26, c27]
    refine ee_seq_condT (by simp [bV, c25, c25M, c26, c27]) ?_
    refine ee_assoc ?_
    refine ee_seq_reg rfl (by simp [c25, c25M, c26, c27]; rfl) ?_
    refine ee_seq_ret ?_
    obtain rfl := Option.some.inj hr
    simp [FinQ, c25, c25M, c26, c27, c25N]
   ·skip
    by_cases c28 : a2 < 0
    ·skip
     refine ee_seq_reg rfl (by simp [c25, c25M, c26, c27, c28]; rfl) ?_
     rw [if_pos] at hr
     rotate_left
     ·simp [c25, c25M, c26, c27, c28]
     refine ee_seq_condT (by simp [bV, c25, c25M, c26, c27, c28]) ?_
     refine ee_assoc ?_
     refine ee_seq_reg rfl (by simp [c25, c25M, c26, c27, c28]; rfl) ?_
     refine ee_seq_ret ?_
     obtain rfl := Option.some.inj hr
     simp [FinQ, c25, c25M, c26, c27, c28, c25N]
    ·skip
     refine ee_seq_reg rfl (by simp [c25, c25M, c26, c27, c28]; rfl) ?_
     by_cases c29 : 32 < a2
     ·skip
      rw [if_pos] at hr
      rotate_left
      ·simp [c25, c25M, c26, c27, c28, c29]
      refine ee_seq_condT (by simp [bV, c25, c25M, c26, c27, c28, c29]) ?_
      refine ee_assoc ?_
      refine ee_seq_reg rfl (by simp [c25, c25M, c26, c27, c28, c29]; rfl) ?_
      refine ee_seq_ret ?_
      obtain rfl := Option.some.inj hr
      simp [FinQ, c25, c25M, c26, c27, c28, c29, c25N]
     ·skip
      rw [if_neg] at hr
      rotate_left
      ·simp [c25, c25M, c26, c27, c28, c29]
      refine ee_seq_condF (by simp [bV, c25, c25M, c26, c27, c28, c29]) ?_
      refine ee_seq_skip ?_
      refine ee_seq_reg rfl (by simp [c25, c25M, c26, c27, c28, c29]; rfl) ?_
      refine ee_seq_reg rfl (by simp [c25, c25M, c26, c27, c28, c29]; rfl) ?_
      refine ee_assoc ?_
      refine ee_seq_reg rfl (by simp [c25, c25M, c26, c27, c28, c29]; rfl) ?_
      refine ee_seq_block ?_
      refine ee_loop (kq := ⟨[2, 3, 4, 8, 10, 11, 34, 35, 36], [4, 8, 51, 1000000000033], [(11, none, 51, 1)]⟩) (H := fun (s : Int × (List (ByteArray × Bool)) × (List (List Int))) => match s with | (p11, p12, p13) => (⟨(und 2 ++ ([.one (.v (.int .i64 a2)), .one (.v (.int .u64 a3)), .ptr 4 0 0 0 2] ++ (und 3 ++ ([.ptr 8 0 0 0 2] ++ (und 1 ++ ([.one (.mp 1000000000033 0), .one (.ms 51 0 0 (p13.length) 1)] ++ (und 22 ++ ([.one (.slice .no (List.map eS_I_u8 a1)), .one (.v (.int .i64 (a1.length : Int))), .one (.v (.int .i64 p11))] ++ (und 26)))))))) : List PV), ([(4, ⟨0, 2, [arC .u64 a0], false, false⟩), (8, ⟨0, 2, [[.v (.int .i64 0), .slice .nil []]], false, false⟩), (51, ⟨0, 1, List.map eS_I_u8 p13, false, true⟩), (1000000000033, ⟨0, 4, ([.v (.string (⟨#[]⟩))]) :: List.map eM_Str_B p12, false, false⟩)] : Boxes)⟩ : ASt)) (by kernel_rfl) hr (by simp [und, List.replicate, c25, c25M, c26, c27, c28, c29]) ?_
      rintro ⟨p11, p12, p13⟩ x39r hr39
      simp only [Lgolomb_Build_s1] at hr39
      unfold b17_1
      simp only [und, List.replicate, List.cons_append, List.nil_append]
      refine ee_seq_reg rfl (by simp [c25, c25M, c26, c27, c28, c29]; rfl) ?_
      by_cases c40 : p11 < (a1.length : Int)
      ·skip
       have c40N := c40
       try simp at c40N
       first | have c40M : (_ = _) = True := eq_true c40N | have c40M := c40N
       rw [if_pos] at hr39
       rotate_left
       ·simp [c25, c25M, c26, c27, c28, c29, c40, c40M]
       refine ee_seq_condT (by simp [bV, c25, c25M, c26, c27, c28, c29, c40, c40M]) ?_
       refine ee_seq_skip ?_
       refine ee_seq_block ?_
       obtain ⟨x41, hx41, hr39⟩ := bs hr39
       obtain ⟨hx41a, hx41b⟩ := idx_some hx41
       have hx41c := getE_of hx41b
       refine ee_seq_reg rfl (by simp [hx41a, hx41b, hx41c, c25, c25M, c26, c27, c28, c29, c40, c40M]; rfl) ?_
       refine ee_seq_reg rfl (by simp [c25, c25M, c26, c27, c28, c29, c40, c40M]; rfl) ?_
       refine ee_J hr39 (.normal) (fun (s : (List (ByteArray × Bool)) × (List (List Int))) => match s with | (p22, p23) => (⟨(und 2 ++ ([.one (.v (.int .i64 a2)), .one (.v (.int .u64 a3)), .ptr 4 0 0 0 2] ++ (und 3 ++ ([.ptr 8 0 0 0 2] ++ (und 1 ++ ([.one (.mp 1000000000033 0), .one (.ms 51 0 0 (p23.length) 1)] ++ (und 22 ++ ([.one (.slice .no (List.map eS_I_u8 a1)), .one (.v (.int .i64 (a1.length : Int))), .one (.v (.int .i64 p11))] ++ (und 26)))))))) : List PV), ([(4, ⟨0, 2, [arC .u64 a0], false, false⟩), (8, ⟨0, 2, [[.v (.int .i64 0), .slice .nil []]], false, false⟩), (51, ⟨0, 1, List.map eS_I_u8 p23, false, true⟩), (1000000000033, ⟨0, 4, ([.v (.string (⟨#[]⟩))]) :: List.map eM_Str_B p22, false, false⟩)] : Boxes)⟩ : ASt)) (fun (s : (List (ByteArray × Bool)) × (List (List Int))) => match s with | (p22, p23) => Lgolomb_Build_k2 p11 p22 p23) ?_ ?_
       ·skip
        rintro ⟨p22, p23⟩ hk44
        change Lgolomb_Build_k2 p11 p22 p23 = _ at hk44
        simp only [pq, reduceCtorEq]
        simp only [und, List.replicate, List.cons_append, List.nil_append]
        unfold Lgolomb_Build_k2 at hk44
        refine ee_regJ rfl (kq := ⟨[2, 3, 4, 8, 10, 11, 34, 35, 36], [4, 8, 51, 1000000000033], []⟩) rfl (by simp [joinSt, c25, c25M, c26, c27, c28, c29, c40, c40M]; rfl) (by simp [c25, c25M, c26, c27, c28, c29, c40, c40M]; rfl) ?_
        obtain rfl := Option.some.inj hk44
        simp only [pq, reduceCtorEq]
        simp [und, List.replicate, Nat.add_assoc, c25, c25M, c26, c27, c28, c29, c40, c40M]
       ·skip
        intro J44
        simp only [pq, reduceCtorEq] at J44
        by_cases c45 : (mget (strOf x41) p12).getD false = true
        ·skip
         rw [if_neg] at hr39
         rotate_left
         ·simp [c25, c25M, c26, c27, c28, c29, c40, c40M, c45]
         refine ee_condF (by simp [bV, c25, c25M, c26, c27, c28, c29, c40, c40M, c45]) ?_
         refine ee_skip ?_
         simp only [pq, reduceCtorEq]
         exact ee_join (key := 1000013) (kq := ⟨[2, 3, 4, 8, 10, 11, 34, 35, 36], [4, 8, 51, 1000000000033], []⟩) rfl rfl rfl (by simp [und, List.replicate, c25, c25M, c26, c27, c28, c29, c40, c40M, c45]) (J44 (p12, p13) hr39)
        ·skip
         rw [if_pos] at hr39
         rotate_left
         ·simp [c25, c25M, c26, c27, c28, c29, c40, c40M, c45]
         refine ee_condT (by simp [bV, c25, c25M, c26, c27, c28, c29, c40, c40M, c45]) ?_
         refine ee_seq_reg rfl (by simp [c25, c25M, c26, c27, c28, c29, c40, c40M, c45]; rfl) ?_
         obtain ⟨_, u46, hr39⟩ := bs hr39
         have u46_0 := chk_some u46
         have n1_u46_0 : (p13.length + 1) * 24 ≤ 140737488355328 := by omega
         have n2_u46_0 : p13.length + 1 ≤ 9223372036854775807 := by omega
         refine ee_reg rfl (by simp [n1_u46_0, n2_u46_0, c25, c25M, c26, c27, c28, c29, c40, c40M, c45]; rfl) ?_
         simp only [pq, reduceCtorEq]
         exact ee_join (key := 1000013) (kq := ⟨[2, 3, 4, 8, 10, 11, 34, 35, 36], [4, 8, 51, 1000000000033], []⟩) rfl rfl rfl (by simp [und, List.replicate, c25, c25M, c26, c27, c28, c29, c40, c40M, c45]) (J44 (mput (strOf x41) true p12, p13 ++ [x41]) hr39)
      ·skip
       have c40N := c40
       try simp at c40N
       first | have c40M : (_ = _) = True := eq_true c40N | have c40M := c40N
       rw [if_neg] at hr39
       rotate_left
       ·simp [c25, c25M, c26, c27, c28, c29, c40, c40M]
       refine ee_seq_condF (by simp [bV, c25, c25M, c26, c27, c28, c29, c40, c40M]) ?_
       refine ee_seq_exit ?_
       obtain ⟨r47, q47, rfl⟩ := ms hr39
       simp only [pq, reduceCtorEq]
       rintro rfl
       try simp only [pq, reduceCtorEq]
       unfold Lgolomb_Build_k1 at q47
       obtain ⟨y48, hy48, q47⟩ := bs q47
       have ehy48 := G30_eq hy48
       simp only [E30, R30, nf, nfs] at ehy48
       obtain ⟨y49, hy49, q47⟩ := bs q47
       have ehy49 := G13_eq hy49
       simp only [E13, R13, nf, nfs] at ehy49
       refine ee_seq_reg rfl (by simp [hO, hT30, ehy48, hT13, ehy49, c25, c25M, c26, c27, c28, c29, c40, c40M]; rfl) ?_
       refine ee_ret ?_
       obtain rfl := Option.some.inj q47
       simp [FinQ, hO, hT30, ehy48, hT13, ehy49, c25, c25M, c26, c27, c28, c29, c40, c40M, c25N, c40N]
def kp12 : Keep := fun i => ⟨[], [], []⟩
theorem w12 {T : Tab} (hO : T.own = fun _ => []) (hT13 : T 13 = some G13) (hT17 : T 17 = some G17) (x : Bool) (hr : Llaw19_sane  = some x) : ∃ kp fl n, execFn tt T G kp fl n Try.f12 (E12 ()) = some (R12 () x) := by
 simp only [E12, R12]
 refine fnE (kp := kp12) (w := false) body12 (by simp) ?_
 unfold c12
 rw [Try.ntmps12]
 unfold Llaw19_sane at hr
 refine ee_seq_reg rfl (by simp []; rfl) ?_
 obtain ⟨y5, hy5, hr⟩ := bs hr
 have ehy5 := G13_eq hy5
 simp only [E13, R13, nf, nfs] at ehy5
 refine ee_seq_reg rfl (by simp [List.range, List.range.loop, hO, hT13, ehy5]; rfl) ?_
 obtain ⟨y6, hy6, hr⟩ := bs hr
 have ehy6 := G17_eq hy6
 simp only [E17, R17, nf, nfs] at ehy6
 try simp only [arC_lit, ints_cons, ints_nil] at ehy6
 refine ee_seq_reg rfl (by simp [hO, hT17, ehy6]; rfl) ?_
 by_cases c7 : y5.2 = 0
 ·skip
  by_cases c8 : y5.1.1 = 2
  ·skip
   by_cases c9 : (y5.1.2.length : Int) = 1
   ·skip
    have c9N := c9
    try simp at c9N
    rw [if_pos] at hr
    rotate_left
    ·simp [eq_true c7, eq_true c8, eq_true c9, eq_true c9N]
    obtain ⟨z10, hz10, hr⟩ := bs hr
    obtain ⟨x11, hx11, hz10⟩ := bs hz10
    have hx11c := getE_of hx11
    obtain rfl := Option.some.inj hz10
    by_cases c12 : x11 = 40
    ·skip
     by_cases c13 : y6.2 = 0
     ·skip
      by_cases c14 : y6.1.1 = 0
      ·skip
       refine ee_seq_reg rfl (by simp [hx11, hx11c, eq_true c7, eq_true c8, eq_true c9, eq_true c9N, eq_true c12, eq_true c13, eq_true c14]; rfl) ?_
       refine ee_ret ?_
       obtain rfl := Option.some.inj hr
       simp [FinQ, hx11, hx11c, eq_true c7, eq_true c8, eq_true c9, eq_true c9N, eq_true c12, eq_true c13, eq_true c14]
      ·skip
       refine ee_seq_reg rfl (by simp [hx11, hx11c, eq_true c7, eq_true c8, eq_true c9, eq_true c9N, eq_true c12, eq_true c13, c14]; rfl) ?_
       refine ee_ret ?_
       obtain rfl := Option.some.inj hr
       simp [FinQ, hx11, hx11c, eq_true c7, eq_true c8, eq_true c9, eq_true c9N, eq_true c12, eq_true c13, c14]
     ·skip
      refine ee_seq_reg rfl (by simp [hx11, hx11c, eq_true c7, eq_true c8, eq_true c9, eq_true c9N, eq_true c12, c13]; rfl) ?_
      refine ee_ret ?_
      obtain rfl := Option.some.inj hr
      simp [FinQ, hx11, hx11c, eq_true c7, eq_true c8, eq_true c9, eq_true c9N, eq_true c12, c13]
    ·skip
     refine ee_seq_reg rfl (by simp [hx11, hx11c, eq_true c7, eq_true c8, eq_true c9, eq_true c9N, c12]; rfl) ?_
     refine ee_ret ?_
     obtain rfl := Option.some.inj hr
     simp [FinQ, hx11, hx11c, eq_true c7, eq_true c8, eq_true c9, eq_true c9N, c12]
   ·skip
    have c9N := c9
    try simp at c9N
    first | have c9M : (_ = _) = True := eq_true c9N | have c9M := c9N
    rw [if_neg] at hr
    rotate_left
    ·simp [eq_true c7, eq_true c8, c9, c9M]
    obtain ⟨z15, hz15, hr⟩ := bs hr
    obtain rfl := Option.some.inj hz15
    refine ee_seq_reg rfl (by simp [eq_true c7, eq_true c8, c9, c9M]; rfl) ?_
    refine ee_ret ?_
    obtain rfl := Option.some.inj hr
    simp [FinQ, eq_true c7, eq_true c8, c9, c9M, c9N]
  ·skip
   rw [if_neg] at hr
   rotate_left
   ·simp [eq_true c7, c8]
   obtain ⟨z16, hz16, hr⟩ := bs hr
   obtain rfl := Option.some.inj hz16
   refine ee_seq_reg rfl (by simp [eq_true c7, c8]; rfl) ?_
   refine ee_ret ?_
   obtain rfl := Option.some.inj hr
   simp [FinQ, eq_true c7, c8]
 ·skip
  rw [if_neg] at hr
  rotate_left
  ·simp [c7]
  obtain ⟨z17, hz17, hr⟩ := bs hr
  obtain rfl := Option.some.inj hz17
  refine ee_seq_reg rfl (by simp [c7]; rfl) ?_
  refine ee_ret ?_
  obtain rfl := Option.some.inj hr
  simp [FinQ, c7]
def kp16 : Keep := fun i => if i = 4 then ⟨[2, 13, 14, 15], [], []⟩ else ⟨[], [], []⟩
theorem w16 {T : Tab} (a0 : (List (List Int))) (a1 : Int) (a2 : Int) (x : Bool) (hr : Lkeep_Items a0 a1 a2 = some x) : ∃ kp fl n, execFn tt T G kp fl n Try.f16 (E16 (a0, a1, a2)) = some (R16 (a0, a1, a2) x) := by
 simp only [E16, R16]
 refine fnE (kp := kp16) (w := false) body16 (by simp) ?_
 unfold c16
 rw [Try.ntmps16]
 unfold Lkeep_Items at hr
 refine ee_seq_reg rfl (by simp []; rfl) ?_
 refine ee_assoc ?_
 refine ee_seq_reg rfl (by simp []; rfl) ?_
 by_cases c7 : a1 < (a0.length : Int)
 ·skip
  have c7N := c7
  try simp at c7N
  first | have c7M : (_ = _) = True := eq_true c7N | have c7M := c7N
  rw [if_pos c7] at hr
  refine ee_seq_condT (by simp [bV, c7, c7M]) ?_
  refine ee_assoc ?_
  refine ee_seq_reg rfl (by simp [c7, c7M]; rfl) ?_
  refine ee_seq_ret ?_
  obtain rfl := Option.some.inj hr
  simp [FinQ, c7, c7M, c7N]
 ·skip
  have c7N := c7
  try simp at c7N
  first | have c7M : (_ = _) = True := eq_true c7N | have c7M := c7N
  rw [if_neg c7] at hr
  refine ee_seq_condF (by simp [bV, c7, c7M]) ?_
  refine ee_seq_skip ?_
  refine ee_assoc ?_
  refine ee_seq_reg rfl (by simp [c7, c7M]; rfl) ?_
  refine ee_seq_block ?_
  refine ee_loop (kq := ⟨[2, 13, 14, 15], [], []⟩) (H := fun (s : Int) => match s with | p4 => (⟨(und 2 ++ ([.one (.v (.int .i64 a2))] ++ (und 10 ++ ([.one (.slice .no (List.map eS_I_u8 a0)), .one (.v (.int .i64 (a0.length : Int))), .one (.v (.int .i64 p4))] ++ (und 8)))) : List PV), ([] : Boxes)⟩ : ASt)) (by kernel_rfl) hr (by simp [und, List.replicate, c7, c7M]) ?_
  rintro p4 x13r hr13
  simp only [Lkeep_Items_s1] at hr13
  unfold b16_1
  simp only [und, List.replicate, List.cons_append, List.nil_append]
  refine ee_seq_reg rfl (by simp [c7, c7M]; rfl) ?_
  by_cases c14 : p4 < (a0.length : Int)
  ·skip
   have c14N := c14
   try simp at c14N
   first | have c14M : (_ = _) = True := eq_true c14N | have c14M := c14N
   rw [if_pos] at hr13
   rotate_left
   ·simp [c7, c7M, c14, c14M]
   refine ee_seq_condT (by simp [bV, c7, c7M, c14, c14M]) ?_
   refine ee_seq_skip ?_
   refine ee_seq_block ?_
   obtain ⟨x15, hx15, hr13⟩ := bs hr13
   obtain ⟨hx15a, hx15b⟩ := idx_some hx15
   have hx15c := getE_of hx15b
   refine ee_seq_reg rfl (by simp [hx15a, hx15b, hx15c, c7, c7M, c14, c14M]; rfl) ?_
   refine ee_seq_reg rfl (by simp [c7, c7M, c14, c14M]; rfl) ?_
   by_cases c16 : a2 < (x15.length : Int)
   ·skip
    have c16N := c16
    try simp at c16N
    first | have c16M : (_ = _) = True := eq_true c16N | have c16M := c16N
    rw [if_pos c16] at hr13
    refine ee_condT (by simp [bV, c7, c7M, c14, c14M, c16, c16M]) ?_
    refine ee_seq_reg rfl (by simp [c7, c7M, c14, c14M, c16, c16M]; rfl) ?_
    refine ee_ret ?_
    obtain rfl := Option.some.inj hr13
    simp only [pq, reduceCtorEq]
    rintro rfl
    simp [FinQ, c7, c7M, c14, c14M, c16, c16M, c7N, c14N, c16N]
   ·skip
    have c16N := c16
    try simp at c16N
    first | have c16M : (_ = _) = True := eq_true c16N | have c16M := c16N
    rw [if_neg c16] at hr13
    refine ee_condF (by simp [bV, c7, c7M, c14, c14M, c16, c16M]) ?_
    refine ee_skip ?_
    simp only [pq, reduceCtorEq]
    refine ee_reg rfl (by simp [c7, c7M, c14, c14M, c16, c16M]; rfl) ?_
    obtain rfl := Option.some.inj hr13
    simp only [pq, reduceCtorEq]
    simp [und, List.replicate, Nat.add_assoc, c7, c7M, c14, c14M, c16, c16M]
  ·skip
   have c14N := c14
   try simp at c14N
   first | have c14M : (_ = _) = True := eq_true c14N | have c14M := c14N
   rw [if_neg] at hr13
   rotate_left
   ·simp [c7, c7M, c14, c14M]
   refine ee_seq_condF (by simp [bV, c7, c7M, c14, c14M]) ?_
   refine ee_seq_exit ?_
   obtain ⟨r17, q17, rfl⟩ := ms hr13
   simp only [pq, reduceCtorEq]
   rintro rfl
   try simp only [pq, reduceCtorEq]
   unfold Lkeep_Items_k1 at q17
   refine ee_seq_reg rfl (by simp [c7, c7M, c14, c14M]; rfl) ?_
   refine ee_ret ?_
   obtain rfl := Option.some.inj q17
   simp [FinQ, c7, c7M, c14, c14M, c7N, c14N]
def kp34_13 : Keep := fun i => if i = 4 then ⟨[0, 3], [99000000], []⟩ else if i = 9 then ⟨[0, 3, 4, 5], [99000000], []⟩ else if i = 1000010 then ⟨[0, 3, 4, 5], [99000000], []⟩ else ⟨[], [], []⟩
theorem w34_13 {T : Tab} (a0 : (List Int)) (x : (List Int)) (hr : Lslices_Compact_of__uint64_uint64 a0 = some x) : ∃ kp fl n, execFn tt T G kp fl n Try.f34 (E34_13 a0) = some (R34_13 a0 x) := by
 simp only [E34_13, R34_13]
 refine fnE (kp := kp34_13) (w := true) body34 (by simp) ?_
 unfold c34
 rw [Try.ntmps34]
 unfold Lslices_Compact_of__uint64_uint64 at hr
 refine ee_seq_reg rfl (by simp []; rfl) ?_
 refine ee_assoc ?_
 refine ee_seq_reg rfl (by simp []; rfl) ?_
 by_cases c151 : (a0.length : Int) < 2
 ·skip
  have c151N := c151
  try simp at c151N
  first | have c151M : (_ = _) = True := eq_true c151N | have c151M := c151N
  rw [if_pos c151] at hr
  refine ee_seq_condT (by simp [bV, c151, c151M]) ?_
  refine ee_assoc ?_
  refine ee_seq_reg rfl (by simp [c151, c151M]; rfl) ?_
  refine ee_seq_ret ?_
  obtain rfl := Option.some.inj hr
  simp [FinQ, c151, c151M, c151N]
 ·skip
  have c151N := c151
  try simp at c151N
  first | have c151M : (_ = _) = True := eq_true c151N | have c151M := c151N
  rw [if_neg c151] at hr
  refine ee_seq_condF (by simp [bV, c151, c151M]) ?_
  refine ee_seq_skip ?_
  refine ee_assoc ?_
  refine ee_seq_reg rfl (by simp [c151, c151M]; rfl) ?_
  refine ee_seq_block ?_
  refine ee_loop (kq := ⟨[0, 3], [99000000], []⟩) (H := fun (s : Int) => match s with | p72 => (⟨([.one (.ms 99000000 0 0 (a0.length) 1)] ++ (und 2 ++ ([.one (.v (.int .i64 p72))] ++ (und 57))) : List PV), ([(99000000, ⟨0, 1, intsR .u64 a0, false, true⟩)] : Boxes)⟩ : ASt)) (by kernel_rfl) hr (by simp [und, List.replicate, c151, c151M]) ?_
  rintro p72 x194r hr194
  simp only [Lslices_Compact_of__uint64_uint64_s1] at hr194
  unfold b34_1
  simp only [und, List.replicate, List.cons_append, List.nil_append]
  refine ee_assoc ?_
  refine ee_seq_reg rfl (by simp [c151, c151M]; rfl) ?_
  by_cases c195 : p72 < (a0.length : Int)
  ·skip
   have c195N := c195
   try simp at c195N
   first | have c195M : (_ = _) = True := eq_true c195N | have c195M := c195N
   rw [if_pos] at hr194
   rotate_left
   ·simp [c151, c151M, c195, c195M]
   refine ee_seq_condT (by simp [bV, c151, c151M, c195, c195M]) ?_
   refine ee_seq_skip ?_
   refine ee_seq_block ?_
   obtain ⟨j196, hj196, hr194⟩ := bs hr194
   obtain ⟨j196a, j196b, j196c⟩ := inA_some hj196
   obtain ⟨x197, hx197, hr194⟩ := bs hr194
   have ghx197 := getE_of hx197
   obtain ⟨j198, hj198, hr194⟩ := bs hr194
   obtain ⟨j198a, j198b, j198c⟩ := inA_some hj198
   obtain ⟨x199, hx199, hr194⟩ := bs hr194
   have ghx199 := getE_of hx199
   refine ee_seq_draw rfl (by simp [j196a, j196b, j196c, hx197, ghx197, j198a, j198b, j198c, hx199, ghx199, c151, c151M, c195, c195M]; first | exact ⟨rfl, rfl⟩ | rfl) (by kernel_rfl) ?_
   by_cases c200 : x197 = x199
   ·skip
    rw [if_pos c200] at hr194
    refine ee_condT (by simp [bV, c151, c151M, c195, c195M, eq_true c200]) ?_
    obtain ⟨_, u201, hr194⟩ := bs hr194
    obtain ⟨u201_0, u201_1⟩ := chk_some u201
    have sf202 : (p72).toNat ≤ a0.length := by omega
    refine ee_seq_reg rfl (by simp [u201_0, u201_1, sf202, c151, c151M, c195, c195M, eq_true c200]; rfl) ?_
    refine ee_assoc ?_
    refine ee_seq_reg rfl (by simp [c151, c151M, c195, c195M, eq_true c200]; rfl) ?_
    refine ee_seq_block ?_
    refine ee_loop (kq := ⟨[0, 3, 4, 5], [99000000], []⟩) (H := fun (s : Int × Int × (List Int)) => match s with | (p131, p132, p133) => (⟨([.one (.ms 99000000 0 0 (p133.length) 1)] ++ (und 2 ++ ([.one (.v (.int .i64 p131)), .one (.ms 99000000 0 ((p72).toNat) ((a0.length - (p72).toNat)) 1), .one (.v (.int .i64 p132))] ++ (und 55))) : List PV), ([(99000000, ⟨0, 1, intsR .u64 p133, false, true⟩)] : Boxes)⟩ : ASt)) (by kernel_rfl) hr194 (by simp [und, List.replicate, c151, c151M, c195, c195M, eq_true c200]) ?_
    rintro ⟨p131, p132, p133⟩ x215r hr215
    simp only [Lslices_Compact_of__uint64_uint64_s2] at hr215
    unfold b34_2
    simp only [und, List.replicate, List.cons_append, List.nil_append]
    refine ee_assoc ?_
    refine ee_seq_reg rfl (by simp [c151, c151M, c195, c195M, eq_true c200]; rfl) ?_
    by_cases c216 : p132 < (((a0.length - (p72).toNat) : Nat) : Int)
    ·skip
     have c216N := c216
     try simp at c216N
     first | have c216M : (_ = _) = True := eq_true c216N | have c216M := c216N
     rw [if_pos] at hr215
     rotate_left
     ·simp [c151, c151M, c195, c195M, eq_true c200, c216, c216M]
     refine ee_seq_condT (by simp [bV, c151, c151M, c195, c195M, eq_true c200, c216, c216M]) ?_
     refine ee_seq_skip ?_
     refine ee_seq_block ?_
     obtain ⟨j217, hj217, hr215⟩ := bs hr215
     obtain ⟨j217a, j217b, j217c⟩ := inA_some hj217
     obtain ⟨x218, hx218, hr215⟩ := bs hr215
     have ghx218 := getE_of hx218
     obtain ⟨j219, hj219, hr215⟩ := bs hr215
     obtain ⟨j219a, j219b, j219c⟩ := inA_some hj219
     obtain ⟨x220, hx220, hr215⟩ := bs hr215
     have ghx220 := getE_of hx220
     refine ee_seq_draw rfl (by simp [j217a, j217b, j217c, hx218, ghx218, j219a, j219b, j219c, hx220, ghx220, c151, c151M, c195, c195M, eq_true c200, c216, c216M]; first | exact ⟨rfl, rfl⟩ | rfl) (by kernel_rfl) ?_
     refine ee_J hr215 (.normal) (fun (s : Int × (List Int)) => match s with | (p148, p149) => (⟨([.one (.ms 99000000 0 0 (p149.length) 1)] ++ (und 2 ++ ([.one (.v (.int .i64 p148)), .one (.ms 99000000 0 ((p72).toNat) ((a0.length - (p72).toNat)) 1), .one (.v (.int .i64 p132))] ++ (und 55))) : List PV), ([(99000000, ⟨0, 1, intsR .u64 p149, false, true⟩)] : Boxes)⟩ : ASt)) (fun (s : Int × (List Int)) => match s with | (p148, p149) => Lslices_Compact_of__uint64_uint64_k3 p132 p148 p149) ?_ ?_
     ·skip
      rintro ⟨p148, p149⟩ hk223
      change Lslices_Compact_of__uint64_uint64_k3 p132 p148 p149 = _ at hk223
      simp only [pq, reduceCtorEq]
      simp only [und, List.replicate, List.cons_append, List.nil_append]
      unfold Lslices_Compact_of__uint64_uint64_k3 at hk223
      refine ee_regJ rfl (kq := ⟨[0, 3, 4, 5], [99000000], []⟩) rfl (by simp [joinSt, c151, c151M, c195, c195M, eq_true c200, c216, c216M]; rfl) (by simp [c151, c151M, c195, c195M, eq_true c200, c216, c216M]; rfl) ?_
      obtain rfl := Option.some.inj hk223
      simp only [pq, reduceCtorEq]
      simp [und, List.replicate, Nat.add_assoc, c151, c151M, c195, c195M, eq_true c200, c216, c216M]
     ·skip
      intro J223
      simp only [pq, reduceCtorEq] at J223
      by_cases c224 : x218 = x220
      ·skip
       rw [if_neg (not_not_intro c224)] at hr215
       refine ee_condF (by simp [bV, c151, c151M, c195, c195M, eq_true c200, c216, c216M, eq_true c224]) ?_
       refine ee_skip ?_
       simp only [pq, reduceCtorEq]
       exact ee_join (key := 1000010) (kq := ⟨[0, 3, 4, 5], [99000000], []⟩) rfl rfl rfl (by simp [und, List.replicate, c151, c151M, c195, c195M, eq_true c200, c216, c216M, eq_true c224]) (J223 (p131, p133) hr215)
      ·skip
       rw [if_pos c224] at hr215
       refine ee_condT (by simp [bV, c151, c151M, c195, c195M, eq_true c200, c216, c216M, c224]) ?_
       obtain ⟨j217a, j217b, j217c⟩ := inA_some hj217
       have ghx218 := getE_of hx218
       obtain ⟨j225, hj225, hr215⟩ := bs hr215
       obtain ⟨j225a, j225b, j225c⟩ := inA_some hj225
       refine ee_seq_reg rfl (by simp [j217a, j217b, j217c, hx218, ghx218, j225a, j225b, j225c, c151, c151M, c195, c195M, eq_true c200, c216, c216M, c224]; rfl) ?_
       refine ee_reg rfl (by simp [c151, c151M, c195, c195M, eq_true c200, c216, c216M, c224]; rfl) ?_
       simp only [pq, reduceCtorEq]
       exact ee_join (key := 1000010) (kq := ⟨[0, 3, 4, 5], [99000000], []⟩) rfl rfl rfl (by simp [und, List.replicate, c151, c151M, c195, c195M, eq_true c200, c216, c216M, c224]) (J223 (IntKind.i64.wrap (p131 + 1), (p133).set j225 x218) hr215)
    ·skip
     have c216N := c216
     try simp at c216N
     first | have c216M : (_ = _) = True := eq_true c216N | have c216M := c216N
     rw [if_neg] at hr215
     rotate_left
     ·simp [c151, c151M, c195, c195M, eq_true c200, c216, c216M]
     refine ee_seq_condF (by simp [bV, c151, c151M, c195, c195M, eq_true c200, c216, c216M]) ?_
     refine ee_seq_exit ?_
     obtain ⟨r226, q226, rfl⟩ := ms hr215
     simp only [pq, reduceCtorEq]
     rintro rfl
     try simp only [pq, reduceCtorEq]
     unfold Lslices_Compact_of__uint64_uint64_k2 at q226
     obtain ⟨_, u227, q226⟩ := bs q226
     obtain ⟨u227_0, u227_1⟩ := chk_some u227
     have sf228 : (p131).toNat ≤ p133.length := by omega
     have cl229 := clr_ints (k := .u64) (l := p133) (i := (p131).toNat) (n := (p133.length - (p131).toNat)) (by first | omega | (simp only [List.length_set]; omega))
     refine ee_seq_reg rfl (by simp [u227_0, u227_1, sf228, cl229, c151, c151M, c195, c195M, eq_true c200, c216, c216M]; rfl) ?_
     obtain ⟨_, u230, q226⟩ := bs q226
     obtain ⟨u230_0, u230_1⟩ := chk_some u230
     have lu230_0 : p131 ≤ ((p133.length : Nat) : Int) := by
      have h := u230_0
      try simp at h
      omega
     try simp only [Int.natCast_add] at lu230_0
     have sf231 : (p131).toNat ≤ (clr (p133) ((p131).toNat) (p133.length - (p131).toNat) 0).length := by omega
     have sf232 : 0 ≤ p131 := by omega
     have sf233 : (p131).toNat ≤ p133.length := by omega
     have sf234 : 0 ≤ p131 := by omega
     refine ee_seq_reg rfl (by simp [u230_0, u230_1, lu230_0, sf231, sf232, sf233, sf234, c151, c151M, c195, c195M, eq_true c200, c216, c216M]; rfl) ?_
     refine ee_ret ?_
     obtain rfl := Option.some.inj q226
     simp only [pq, reduceCtorEq]
     rintro rfl
     simp [FinQ, u230_0, u230_1, lu230_0, sf231, sf232, sf233, sf234, c151, c151M, c195, c195M, eq_true c200, c216, c216M, c151N, c195N, c216N]
   ·skip
    rw [if_neg c200] at hr194
    refine ee_condF (by simp [bV, c151, c151M, c195, c195M, c200]) ?_
    refine ee_skip ?_
    simp only [pq, reduceCtorEq]
    refine ee_reg rfl (by simp [c151, c151M, c195, c195M, c200]; rfl) ?_
    obtain rfl := Option.some.inj hr194
    simp only [pq, reduceCtorEq]
    simp [und, List.replicate, Nat.add_assoc, c151, c151M, c195, c195M, c200]
  ·skip
   have c195N := c195
   try simp at c195N
   first | have c195M : (_ = _) = True := eq_true c195N | have c195M := c195N
   rw [if_neg] at hr194
   rotate_left
   ·simp [c151, c151M, c195, c195M]
   refine ee_seq_condF (by simp [bV, c151, c151M, c195, c195M]) ?_
   refine ee_seq_exit ?_
   obtain ⟨r235, q235, rfl⟩ := ms hr194
   simp only [pq, reduceCtorEq]
   rintro rfl
   try simp only [pq, reduceCtorEq]
   unfold Lslices_Compact_of__uint64_uint64_k1 at q235
   refine ee_seq_reg rfl (by simp [c151, c151M, c195, c195M]; rfl) ?_
   refine ee_ret ?_
   obtain rfl := Option.some.inj q235
   simp [FinQ, c151, c151M, c195, c195M, c151N, c195N]
def kp19 : Keep := fun i => ⟨[], [], []⟩
theorem w19 {T : Tab} (hO : T.own = fun d => if d = 32 then [[1]] else []) (hT30 : T 30 = some G30) (hT34 : T 34 = some G34_13) (a0 : (Arr 2)) (a1 : (List (List Int))) (a2 : Int) (a3 : Int) (x : (List Int) × Int) (hr : Lgolomb_Values a0 a1 a2 a3 = some x) : ∃ kp fl n, execFn tt T G kp fl n Try.f19 (E19 (a0, a1, a2, a3)) = some (R19 (a0, a1, a2, a3) x) := by
 simp only [E19, R19]
 refine fnE (kp := kp19) (w := false) body19 (by simp) ?_
 unfold c19
 rw [Try.ntmps19]
 unfold Lgolomb_Values at hr
 refine ee_seq_reg rfl (by simp []; rfl) ?_
 refine ee_assoc ?_
 refine ee_seq_reg rfl (by simp []; rfl) ?_
 by_cases c3 : 4096 < (a1.length : Int)
 ·skip
  have c3N := c3
  try simp at c3N
  first | have c3M : (_ = _) = True := eq_true c3N | have c3M := c3N
  rw [if_pos c3] at hr
  refine ee_seq_condT (by simp [bV, c3, c3M]) ?_
  refine ee_assoc ?_
  refine ee_seq_reg rfl (by simp [c3, c3M]; rfl) ?_
  refine ee_seq_ret ?_
  obtain rfl := Option.some.inj hr
  simp [FinQ, c3, c3M, c3N]
 ·skip
  have c3N := c3
  try simp at c3N
  first | have c3M : (_ = _) = True := eq_true c3N | have c3M := c3N
  rw [if_neg c3] at hr
  refine ee_seq_condF (by simp [bV, c3, c3M]) ?_
  refine ee_seq_skip ?_
  refine ee_assoc ?_
  by_cases c4 : a2 < 0
  ·skip
   refine ee_seq_reg rfl (by simp [c3, c3M, c4]; rfl) ?_
   rw [if_pos] at hr
   rotate_left
   ·simp [c3, c3M, c4]
   refine ee_seq_condT (by simp [bV, c3, c3M, c4]) ?_
   refine ee_assoc ?_
   refine ee_seq_reg rfl (by simp [c3, c3M, c4]; rfl) ?_
   refine ee_seq_ret ?_
   obtain rfl := Option.some.inj hr
   simp [FinQ, c3, c3M, c4, c3N]
  ·skip
   by_cases c5 : 4096 < a2
   ·skip
    refine ee_seq_reg rfl (by simp [c3, c3M, c4, c5]; rfl) ?_
    rw [if_pos] at hr
    rotate_left
    ·simp [c3, c3M, c4, c5]
    refine ee_seq_condT (by simp [bV, c3, c3M, c4, c5]) ?_
    refine ee_assoc ?_
    refine ee_seq_reg rfl (by simp [c3, c3M, c4, c5]; rfl) ?_
    refine ee_seq_ret ?_
    obtain rfl := Option.some.inj hr
    simp [FinQ, c3, c3M, c4, c5, c3N]
   ·skip
    by_cases c6 : a3 < 1
    ·skip
     refine ee_seq_reg rfl (by simp [c3, c3M, c4, c5, c6]; rfl) ?_
     rw [if_pos] at hr
     rotate_left
     ·simp [c3, c3M, c4, c5, c6]
     refine ee_seq_condT (by simp [bV, c3, c3M, c4, c5, c6]) ?_
     refine ee_assoc ?_
     refine ee_seq_reg rfl (by simp [c3, c3M, c4, c5, c6]; rfl) ?_
     refine ee_seq_ret ?_
     obtain rfl := Option.some.inj hr
     simp [FinQ, c3, c3M, c4, c5, c6, c3N]
    ·skip
     refine ee_seq_reg rfl (by simp [c3, c3M, c4, c5, c6]; rfl) ?_
     by_cases c7 : 1099511627776 < a3
     ·skip
      rw [if_pos] at hr
      rotate_left
      ·simp [c3, c3M, c4, c5, c6, c7]
      refine ee_seq_condT (by simp [bV, c3, c3M, c4, c5, c6, c7]) ?_
      refine ee_assoc ?_
      refine ee_seq_reg rfl (by simp [c3, c3M, c4, c5, c6, c7]; rfl) ?_
      refine ee_seq_ret ?_
      obtain rfl := Option.some.inj hr
      simp [FinQ, c3, c3M, c4, c5, c6, c7, c3N]
     ·skip
      rw [if_neg] at hr
      rotate_left
      ·simp [c3, c3M, c4, c5, c6, c7]
      refine ee_seq_condF (by simp [bV, c3, c3M, c4, c5, c6, c7]) ?_
      refine ee_seq_skip ?_
      obtain ⟨y8, hy8, hr⟩ := bs hr
      have ehy8 := G30_eq hy8
      simp only [E30, R30, nf, nfs] at ehy8
      obtain ⟨y9, hy9, hr⟩ := bs hr
      have ehy9 := G34_13_eq hy9
      simp only [E34_13, R34_13, nf, nfs] at ehy9
      refine ee_seq_reg rfl (by simp [hO, hT30, ehy8, hT34, ehy9, c3, c3M, c4, c5, c6, c7]; rfl) ?_
      refine ee_ret ?_
      obtain rfl := Option.some.inj hr
      simp [FinQ, hO, hT30, ehy8, hT34, ehy9, c3, c3M, c4, c5, c6, c7, c3N]
def kp52 : Keep := fun i => ⟨[], [], []⟩
theorem w52 {T : Tab} (a0 : Tapi_Bits) (a1 : Int) (x : Bool) (hr : Lbits_bit a0 a1 = some x) : ∃ kp fl n, execFn tt T G kp fl n Try.f52 (E52 (a0, a1)) = some (R52 (a0, a1) x) := by
 simp only [E52, R52]
 refine fnE (kp := kp52) (w := false) body52 (by simp) ?_
 unfold c52
 rw [Try.ntmps52]
 unfold Lbits_bit at hr
 refine ee_seq_reg rfl (by simp []; rfl) ?_
 obtain ⟨x3, hx3, hr⟩ := bs hr
 obtain ⟨hx3a, hx3b⟩ := idx_some hx3
 have hx3c := getE_of hx3b
 obtain ⟨_, u4, hr⟩ := bs hr
 have u4_0 := chk_some u4
 refine ee_seq_draw rfl (by simp [hx3a, hx3b, hx3c, u4_0]; first | exact ⟨rfl, rfl⟩ | rfl) (by kernel_rfl) ?_
 refine ee_ret ?_
 obtain rfl := Option.some.inj hr
 simp [FinQ, hx3a, hx3b, hx3c, u4_0]
def kp53 : Keep := fun i => if i = 3 then ⟨[1, 3, 7, 9, 10], [3], []⟩ else if i = 1000008 then ⟨[1, 3, 7, 9, 10], [3], []⟩ else ⟨[], [], []⟩
theorem w53 {T : Tab} (hO : T.own = fun _ => []) (hT52 : T 52 = some G52) (a0 : Tapi_Bits) (a1 : Int) (a2 : Int) (x : Int) (hr : Lbits_number a0 a1 a2 = some x) : ∃ kp fl n, execFn tt T G kp fl n Try.f53 (E53 (a0, a1, a2)) = some (R53 (a0, a1, a2) x) := by
 simp only [E53, R53]
 refine fnE (kp := kp53) (w := false) body53 (by simp) ?_
 unfold c53
 rw [Try.ntmps53]
 unfold Lbits_number at hr
 refine ee_seq_reg rfl (by simp []; rfl) ?_
 refine ee_seq_reg rfl (by simp []; rfl) ?_
 refine ee_assoc ?_
 refine ee_seq_reg rfl (by simp []; rfl) ?_
 refine ee_seq_block ?_
 refine ee_loop (kq := ⟨[1, 3, 7, 9, 10], [3], []⟩) (H := fun (s : Int × Int) => match s with | (p7, p8) => (⟨(und 1 ++ ([.one (.v (.int .i64 a1))] ++ (und 1 ++ ([.ptr 3 0 0 0 2] ++ (und 3 ++ ([.one (.v (.int .u64 p7))] ++ (und 1 ++ ([.one (.v (.int .i64 a2)), .one (.v (.int .i64 p8))] ++ (und 13)))))))) : List PV), ([(3, ⟨0, 2, [[.slice .no (intsR .u8 a0.1), .v (.int .i64 a0.2)]], false, false⟩)] : Boxes)⟩ : ASt)) (by kernel_rfl) hr (by simp [und, List.replicate, ]) ?_
 rintro ⟨p7, p8⟩ x20r hr20
 simp only [Lbits_number_s1] at hr20
 unfold b53_1
 simp only [und, List.replicate, List.cons_append, List.nil_append]
 refine ee_seq_reg rfl (by simp []; rfl) ?_
 by_cases c21 : p8 < a2
 ·skip
  rw [if_pos] at hr20
  rotate_left
  ·simp [c21]
  refine ee_seq_condT (by simp [bV, c21]) ?_
  refine ee_seq_skip ?_
  refine ee_seq_block ?_
  refine ee_seq_reg rfl (by simp [c21]; rfl) ?_
  refine ee_seq_reg rfl (by simp [c21]; rfl) ?_
  obtain ⟨y22, hy22, hr20⟩ := bs hr20
  have ehy22 := G52_eq hy22
  simp only [E52, R52, nf, nfs] at ehy22
  refine ee_seq_reg rfl (by simp [hO, hT52, ehy22, c21]; rfl) ?_
  refine ee_J hr20 (.normal) (fun (s : Int) => match s with | p12 => (⟨(und 1 ++ ([.one (.v (.int .i64 a1))] ++ (und 1 ++ ([.ptr 3 0 0 0 2] ++ (und 3 ++ ([.one (.v (.int .u64 p12))] ++ (und 1 ++ ([.one (.v (.int .i64 a2)), .one (.v (.int .i64 p8))] ++ (und 13)))))))) : List PV), ([(3, ⟨0, 2, [[.slice .no (intsR .u8 a0.1), .v (.int .i64 a0.2)]], false, false⟩)] : Boxes)⟩ : ASt)) (fun (s : Int) => match s with | p12 => Lbits_number_k2 p8 p12) ?_ ?_
  ·skip
   rintro p12 hk24
   change Lbits_number_k2 p8 p12 = _ at hk24
   simp only [pq, reduceCtorEq]
   simp only [und, List.replicate, List.cons_append, List.nil_append]
   unfold Lbits_number_k2 at hk24
   refine ee_regJ rfl (kq := ⟨[1, 3, 7, 9, 10], [3], []⟩) rfl (by simp [joinSt, c21]; rfl) (by simp [c21]; rfl) ?_
   obtain rfl := Option.some.inj hk24
   simp only [pq, reduceCtorEq]
   simp [und, List.replicate, Nat.add_assoc, c21]
  ·skip
   intro J24
   simp only [pq, reduceCtorEq] at J24
   by_cases c25 : y22 = true
   ·skip
    rw [if_pos c25] at hr20
    refine ee_condT (by simp [bV, c21, c25]) ?_
    refine ee_reg rfl (by simp [c21, c25]; rfl) ?_
    simp only [pq, reduceCtorEq]
    exact ee_join (key := 1000008) (kq := ⟨[1, 3, 7, 9, 10], [3], []⟩) rfl rfl rfl (by simp [und, List.replicate, c21, c25]) (J24 (bits .or .u64 (IntKind.u64.wrap (p7 * 2)) 1) hr20)
   ·skip
    rw [if_neg c25] at hr20
    refine ee_condF (by simp [bV, c21, c25]) ?_
    refine ee_skip ?_
    simp only [pq, reduceCtorEq]
    exact ee_join (key := 1000008) (kq := ⟨[1, 3, 7, 9, 10], [3], []⟩) rfl rfl rfl (by simp [und, List.replicate, c21, c25]) (J24 (IntKind.u64.wrap (p7 * 2)) hr20)
 ·skip
  rw [if_neg] at hr20
  rotate_left
  ·simp [c21]
  refine ee_seq_condF (by simp [bV, c21]) ?_
  refine ee_seq_exit ?_
  obtain ⟨r26, q26, rfl⟩ := ms hr20
  simp only [pq, reduceCtorEq]
  rintro rfl
  try simp only [pq, reduceCtorEq]
  unfold Lbits_number_k1 at q26
  refine ee_seq_reg rfl (by simp [c21]; rfl) ?_
  refine ee_ret ?_
  obtain rfl := Option.some.inj q26
  simp [FinQ, c21]
end Go.Proofs.Ytmjbklblgpnagaa
