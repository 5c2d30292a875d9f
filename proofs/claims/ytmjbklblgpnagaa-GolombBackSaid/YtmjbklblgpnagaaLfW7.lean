import Derived.Test.YtmjbklblgpnagaaLfK
import Derived.Test.YtmjbklblgpnagaaCode
import Derived.Test.YtmjbklblgpnagaaBl
namespace Go.Proofs.Ytmjbklblgpnagaa
open Go.RowKit
open Go.Av
open Go.Lc
set_option maxRecDepth 100000
set_option linter.unusedSimpArgs false
set_option linter.unusedVariables false
set_option maxHeartbeats 4000000
variable {G : Glob}
def kp49_12 : Keep := fun i => ⟨[], [], []⟩
theorem w49_12 {T : Tab} (hO : T.own = fun d => if d = 10 then [[1000001]] else []) (hT62 : T 62 = some G62_10) (hT63 : T 63 = some G63) (a0 : (List Int)) (x : (List Int)) (hr : Lslices_Sort_of__uint64_uint64 a0 = some x) : ∃ kp fl n, execFn tt T G kp fl n Try.f49 (E49_12 a0) = some (R49_12 a0 x) := by
 simp only [E49_12, R49_12]
 refine fnE (kp := kp49_12) (w := false) body49 (by simp) ?_
 unfold c49
 rw [Try.ntmps49]
 unfold Lslices_Sort_of__uint64_uint64 at hr
 refine ee_seq_reg rfl (by simp [-intsR_st, intsR_set]; rfl) ?_
 obtain ⟨y4, hy4, hr⟩ := bs hr
 have ehy4 := G63_eq hy4
 simp only [E63, R63, nf, nfs] at ehy4
 try simp only [intsR_set] at ehy4
 obtain ⟨y5, hy5, hr⟩ := bs hr
 have ehy5 := G62_10_eq hy5
 simp only [E62_10, R62_10, nf, nfs] at ehy5
 try simp only [intsR_set] at ehy5
 obtain ⟨_, u6, hr⟩ := bs hr
 have u6_0 := chk_some u6
 have ck7 := chunk_ints1 (k := .u64) u6_0
 refine ee_reg rfl (by simp [-intsR_st, intsR_set, hO, hT63, ehy4, hT62, ehy5, ck7, u6_0]; rfl) ?_
 obtain ⟨_, u8, hr⟩ := bs hr
 have u8_0 := chk_some u8
 try simp only [u6_0] at u8_0
 obtain rfl := Option.some.inj hr
 simp [-intsR_st, intsR_set, FinQ, hO, hT63, ehy4, hT62, ehy5, ck7, u6_0, u8_0]
def kp30 : Keep := fun i => if i = 3 then ⟨[2, 3, 4, 9, 12, 13, 14], [4, 28], [(9, none, 28, 1)]⟩ else ⟨[], [], []⟩
theorem w30 {T : Tab} (hO : T.own = fun d => if d = 31 then [[1000001]] else []) (hT47 : T 47 = some G47) (hT48 : T 48 = some G48) (hT49 : T 49 = some G49_12) (a0 : (Arr 2)) (a1 : (List (List Int))) (a2 : Int) (a3 : Int) (x : (List Int)) (hr : Lgolomb_values a0 a1 a2 a3 = some x) : ∃ kp fl n, execFn tt T G kp fl n Try.f30 (E30 (a0, a1, a2, a3)) = some (R30 (a0, a1, a2, a3) x) := by
 simp only [E30, R30]
 refine fnE (kp := kp30) (w := true) body30 (by simp) ?_
 unfold c30
 rw [Try.ntmps30]
 unfold Lgolomb_values at hr
 refine ee_seq_reg rfl (by simp []; rfl) ?_
 refine ee_seq_reg rfl (by simp []; rfl) ?_
 refine ee_assoc ?_
 refine ee_seq_reg rfl (by simp []; rfl) ?_
 refine ee_seq_block ?_
 refine ee_loop (kq := ⟨[2, 3, 4, 9, 12, 13, 14], [4, 28], [(9, none, 28, 1)]⟩) (H := fun (s : Int × (List Int)) => match s with | (p10, p11) => (⟨(und 2 ++ ([.one (.v (.int .i64 a2)), .one (.v (.int .u64 a3)), .ptr 4 0 0 0 2] ++ (und 4 ++ ([.one (.ms 28 0 0 (p11.length) 1)] ++ (und 2 ++ ([.one (.slice .no (List.map eS_I_u8 a1)), .one (.v (.int .i64 (a1.length : Int))), .one (.v (.int .i64 p10))] ++ (und 18)))))) : List PV), ([(4, ⟨0, 2, [arC .u64 a0], false, false⟩), (28, ⟨0, 1, intsR .u64 p11, false, true⟩)] : Boxes)⟩ : ASt)) (by kernel_rfl) hr (by simp [und, List.replicate, ]) ?_
 rintro ⟨p10, p11⟩ x29r hr29
 simp only [Lgolomb_values_s1] at hr29
 unfold b30_1
 simp only [und, List.replicate, List.cons_append, List.nil_append]
 refine ee_seq_reg rfl (by simp []; rfl) ?_
 by_cases c30 : p10 < (a1.length : Int)
 ·skip
  have c30N := c30
  try simp at c30N
  first | have c30M : (_ = _) = True := eq_true c30N | have c30M := c30N
  rw [if_pos] at hr29
  rotate_left
  ·simp [c30, c30M]
  refine ee_seq_condT (by simp [bV, c30, c30M]) ?_
  refine ee_seq_skip ?_
  refine ee_seq_block ?_
  obtain ⟨x31, hx31, hr29⟩ := bs hr29
  obtain ⟨hx31a, hx31b⟩ := idx_some hx31
  have hx31c := getE_of hx31b
  refine ee_seq_reg rfl (by simp [hx31a, hx31b, hx31c, c30, c30M]; rfl) ?_
  obtain ⟨y32, hy32, hr29⟩ := bs hr29
  have ehy32 := G48_eq hy32
  simp only [E48, R48, nf, nfs] at ehy32
  obtain ⟨y33, hy33, hr29⟩ := bs hr29
  have ehy33 := G47_eq hy33
  simp only [E47, R47, nf, nfs] at ehy33
  obtain ⟨_, u34, hr29⟩ := bs hr29
  have u34_0 := chk_some u34
  have n1_u34_0 : (p11.length + 1) * 8 ≤ 140737488355328 := by omega
  have n2_u34_0 : p11.length + 1 ≤ 9223372036854775807 := by omega
  refine ee_reg rfl (by simp [hO, hT48, ehy32, hT47, ehy33, n1_u34_0, n2_u34_0, c30, c30M]; rfl) ?_
  simp only [pq, reduceCtorEq]
  refine ee_reg rfl (by simp [c30, c30M]; rfl) ?_
  obtain rfl := Option.some.inj hr29
  simp only [pq, reduceCtorEq]
  simp [und, List.replicate, Nat.add_assoc, c30, c30M]
 ·skip
  have c30N := c30
  try simp at c30N
  first | have c30M : (_ = _) = True := eq_true c30N | have c30M := c30N
  rw [if_neg] at hr29
  rotate_left
  ·simp [c30, c30M]
  refine ee_seq_condF (by simp [bV, c30, c30M]) ?_
  refine ee_seq_exit ?_
  obtain ⟨r35, q35, rfl⟩ := ms hr29
  simp only [pq, reduceCtorEq]
  rintro rfl
  try simp only [pq, reduceCtorEq]
  unfold Lgolomb_values_k1 at q35
  obtain ⟨y36, hy36, q35⟩ := bs q35
  have ehy36 := G49_12_eq hy36
  simp only [E49_12, R49_12, nf, nfs] at ehy36
  obtain ⟨_, u37, q35⟩ := bs q35
  have u37_0 := chk_some u37
  have ck38 := chunk_ints1 (k := .u64) u37_0
  refine ee_seq_reg rfl (by simp [hO, hT49, ehy36, ck38, u37_0, c30, c30M]; rfl) ?_
  refine ee_seq_reg rfl (by simp [c30, c30M, u37_0]; rfl) ?_
  refine ee_ret ?_
  obtain rfl := Option.some.inj q35
  simp [FinQ, c30, c30M, u37_0, c30N]
def kp17 : Keep := fun i => if i = 8 then ⟨[2, 3, 4, 8, 10, 11, 34, 35, 36], [4, 8, 51, 1000000000033], [(11, none, 51, 1)]⟩ else if i = 1000013 then ⟨[2, 3, 4, 8, 10, 11, 34, 35, 36], [4, 8, 51, 1000000000033], []⟩ else ⟨[], [], []⟩
theorem w17 {T : Tab} (hO : T.own = fun _ => []) (hT13 : T 13 = some G13) (hT30 : T 30 = some G30) (a0 : (Arr 2)) (a1 : (List (List Int))) (a2 : Int) (a3 : Int) (x : Tapi_Filter × Int) (hr : Lgolomb_Build a0 a1 a2 a3 = some x) : ∃ kp fl n, execFn tt T G kp fl n Try.f17 (E17 (a0, a1, a2, a3)) = some (R17 (a0, a1, a2, a3) x) := by
 simp only [E17, R17]
 refine fnE (kp := kp17) (w := false) body17 (by simp) ?_
 unfold c17
 rw [Try.ntmps17]
 unfold Lgolomb_Build at hr
 refine ee_seq_reg rfl (by simp []; rfl) ?_
 refine ee_assoc ?_
 refine ee_seq_reg rfl (by simp []; rfl) ?_
 by_cases c25 : 4096 < (a1.length : Int)
 ·skip
  have c25N := c25
  try simp at c25N
  first | have c25M : (_ = _) = True := eq_true c25N | have c25M := c25N
  rw [if_pos c25] at hr
  refine ee_seq_condT (by simp [bV, c25, c25M]) ?_
  refine ee_assoc ?_
  refine ee_seq_reg rfl (by simp [c25, c25M]; rfl) ?_
  refine ee_seq_ret ?_
  obtain rfl := Option.some.inj hr
  simp [FinQ, c25, c25M, c25N]
 ·skip
  have c25N := c25
  try simp at c25N
  first | have c25M : (_ = _) = True := eq_true c25N | have c25M := c25N
  rw [if_neg c25] at hr
  refine ee_seq_condF (by simp [bV, c25, c25M]) ?_
  refine ee_seq_skip ?_
  refine ee_assoc ?_
  by_cases c26 : a3 < 1
  ·skip
   refine ee_seq_reg rfl (by simp [c25, c25M, c26]; rfl) ?_
   rw [if_pos] at hr
   rotate_left
   ·simp [c25, c25M, c26]
   refine ee_seq_condT (by simp [bV, c25, c25M, c26]) ?_
   refine ee_assoc ?_
   refine ee_seq_reg rfl (by simp [c25, c25M, c26]; rfl) ?_
   refine ee_seq_ret ?_
   obtain rfl := Option.some.inj hr
   simp [FinQ, c25, c25M, c26, c25N]
  ·skip
   by_cases c27 : 1099511627776 < a3
   ·skip
    refine ee_seq_reg rfl (by simp [c25, c25M, c26, c27]; rfl) ?_
    rw [if_pos] at hr
    rotate_left
    ·simp [c25, c25M, c26, c27]
    refine ee_seq_condT (by simp [bV, c25, c25M, c26, c27]) ?_
    refine ee_assoc ?_
    refine ee_seq_reg rfl (by simp [c25, c25M, c26, c27]; rfl) ?_
    refine ee_seq_ret ?_
    obtain rfl := Option.some.inj hr
    simp [FinQ, c25, c25M, c26, c27, c25N]
   ·skip
    by_cases c28 : a2 < 0
    ·skip
     refine ee_seq_reg rfl (by simp [c25, c25M, c26, c27, c28]; rfl) ?_
     rw [if_pos] at hr
     rotate_left
     ·simp [c25, c25M, c26, c27, c28]
     refine ee_seq_condT (by simp [bV, c25, c25M, c26, c27, c28]) ?_
     refine ee_assoc ?_
     refine ee_seq_reg rfl (by simp [c25, c25M, c26, c27, c28]; rfl) ?_
     refine ee_seq_ret ?_
     obtain rfl := Option.some.inj hr
     simp [FinQ, c25, c25M, c26, c27, c28, c25N]
    ·skip
     refine ee_seq_reg rfl (by simp [c25, c25M, c26, c27, c28]; rfl) ?_
     by_cases c29 : 32 < a2
     ·skip
      rw [if_pos] at hr
      rotate_left
      ·simp [c25, c25M, c26, c27, c28, c29]
      refine ee_seq_condT (by simp [bV, c25, c25M, c26, c27, c28, c29]) ?_
      refine ee_assoc ?_
      refine ee_seq_reg rfl (by simp [c25, c25M, c26, c27, c28, c29]; rfl) ?_
      refine ee_seq_ret ?_
      obtain rfl := Option.some.inj hr
      simp [FinQ, c25, c25M, c26, c27, c28, c29, c25N]
     ·skip
      rw [if_neg] at hr
      rotate_left
      ·simp [c25, c25M, c26, c27, c28, c29]
      refine ee_seq_condF (by simp [bV, c25, c25M, c26, c27, c28, c29]) ?_
      refine ee_seq_skip ?_
      refine ee_seq_reg rfl (by simp [c25, c25M, c26, c27, c28, c29]; rfl) ?_
      refine ee_seq_reg rfl (by simp [c25, c25M, c26, c27, c28, c29]; rfl) ?_
      refine ee_assoc ?_
      refine ee_seq_reg rfl (by simp [c25, c25M, c26, c27, c28, c29]; rfl) ?_
      refine ee_seq_block ?_
      refine ee_loop (kq := ⟨[2, 3, 4, 8, 10, 11, 34, 35, 36], [4, 8, 51, 1000000000033], [(11, none, 51, 1)]⟩) (H := fun (s : Int × (List (ByteArray × Bool)) × (List (List Int))) => match s with | (p11, p12, p13) => (⟨(und 2 ++ ([.one (.v (.int .i64 a2)), .one (.v (.int .u64 a3)), .ptr 4 0 0 0 2] ++ (und 3 ++ ([.ptr 8 0 0 0 2] ++ (und 1 ++ ([.one (.mp 1000000000033 0), .one (.ms 51 0 0 (p13.length) 1)] ++ (und 22 ++ ([.one (.slice .no (List.map eS_I_u8 a1)), .one (.v (.int .i64 (a1.length : Int))), .one (.v (.int .i64 p11))] ++ (und 26)))))))) : List PV), ([(4, ⟨0, 2, [arC .u64 a0], false, false⟩), (8, ⟨0, 2, [[.v (.int .i64 0), .slice .nil []]], false, false⟩), (51, ⟨0, 1, List.map eS_I_u8 p13, false, true⟩), (1000000000033, ⟨0, 4, ([.v (.string (⟨#[]⟩))]) :: List.map eM_Str_B p12, false, false⟩)] : Boxes)⟩ : ASt)) (by kernel_rfl) hr (by simp [und, List.replicate, c25, c25M, c26, c27, c28, c29]) ?_
      rintro ⟨p11, p12, p13⟩ x39r hr39
      simp only [Lgolomb_Build_s1] at hr39
      unfold b17_1
      simp only [und, List.replicate, List.cons_append, List.nil_append]
      refine ee_seq_reg rfl (by simp [c25, c25M, c26, c27, c28, c29]; rfl) ?_
      by_cases c40 : p11 < (a1.length : Int)
      ·skip
       have c40N := c40
       try simp at c40N
       first | have c40M : (_ = _) = True := eq_true c40N | have c40M := c40N
       rw [if_pos] at hr39
       rotate_left
       ·simp [c25, c25M, c26, c27, c28, c29, c40, c40M]
       refine ee_seq_condT (by simp [bV, c25, c25M, c26, c27, c28, c29, c40, c40M]) ?_
       refine ee_seq_skip ?_
       refine ee_seq_block ?_
       obtain ⟨x41, hx41, hr39⟩ := bs hr39
       obtain ⟨hx41a, hx41b⟩ := idx_some hx41
       have hx41c := getE_of hx41b
       refine ee_seq_reg rfl (by simp [hx41a, hx41b, hx41c, c25, c25M, c26, c27, c28, c29, c40, c40M]; rfl) ?_
       refine ee_seq_reg rfl (by simp [c25, c25M, c26, c27, c28, c29, c40, c40M]; rfl) ?_
       refine ee_J hr39 (.normal) (fun (s : (List (ByteArray × Bool)) × (List (List Int))) => match s with | (p22, p23) => (⟨(und 2 ++ ([.one (.v (.int .i64 a2)), .one (.v (.int .u64 a3)), .ptr 4 0 0 0 2] ++ (und 3 ++ ([.ptr 8 0 0 0 2] ++ (und 1 ++ ([.one (.mp 1000000000033 0), .one (.ms 51 0 0 (p23.length) 1)] ++ (und 22 ++ ([.one (.slice .no (List.map eS_I_u8 a1)), .one (.v (.int .i64 (a1.length : Int))), .one (.v (.int .i64 p11))] ++ (und 26)))))))) : List PV), ([(4, ⟨0, 2, [arC .u64 a0], false, false⟩), (8, ⟨0, 2, [[.v (.int .i64 0), .slice .nil []]], false, false⟩), (51, ⟨0, 1, List.map eS_I_u8 p23, false, true⟩), (1000000000033, ⟨0, 4, ([.v (.string (⟨#[]⟩))]) :: List.map eM_Str_B p22, false, false⟩)] : Boxes)⟩ : ASt)) (fun (s : (List (ByteArray × Bool)) × (List (List Int))) => match s with | (p22, p23) => Lgolomb_Build_k2 p11 p22 p23) ?_ ?_
       ·skip
        rintro ⟨p22, p23⟩ hk44
        change Lgolomb_Build_k2 p11 p22 p23 = _ at hk44
        simp only [pq, reduceCtorEq]
        simp only [und, List.replicate, List.cons_append, List.nil_append]
        unfold Lgolomb_Build_k2 at hk44
        refine ee_regJ rfl (kq := ⟨[2, 3, 4, 8, 10, 11, 34, 35, 36], [4, 8, 51, 1000000000033], []⟩) rfl (by simp [joinSt, c25, c25M, c26, c27, c28, c29, c40, c40M]; rfl) (by simp [c25, c25M, c26, c27, c28, c29, c40, c40M]; rfl) ?_
        obtain rfl := Option.some.inj hk44
        simp only [pq, reduceCtorEq]
        simp [und, List.replicate, Nat.add_assoc, c25, c25M, c26, c27, c28, c29, c40, c40M]
       ·skip
        intro J44
        simp only [pq, reduceCtorEq] at J44
        by_cases c45 : (mget (strOf x41) p12).getD false = true
        ·skip
         rw [if_neg] at hr39
         rotate_left
         ·simp [c25, c25M, c26, c27, c28, c29, c40, c40M, c45]
         refine ee_condF (by simp [bV, c25, c25M, c26, c27, c28, c29, c40, c40M, c45]) ?_
         refine ee_skip ?_
         simp only [pq, reduceCtorEq]
         exact ee_join (key := 1000013) (kq := ⟨[2, 3, 4, 8, 10, 11, 34, 35, 36], [4, 8, 51, 1000000000033], []⟩) rfl rfl rfl (by simp [und, List.replicate, c25, c25M, c26, c27, c28, c29, c40, c40M, c45]) (J44 (p12, p13) hr39)
        ·skip
         rw [if_pos] at hr39
         rotate_left
         ·simp [c25, c25M, c26, c27, c28, c29, c40, c40M, c45]
         refine ee_condT (by simp [bV, c25, c25M, c26, c27, c28, c29, c40, c40M, c45]) ?_
         refine ee_seq_reg rfl (by simp [c25, c25M, c26, c27, c28, c29, c40, c40M, c45]; rfl) ?_
         obtain ⟨_, u46, hr39⟩ := bs hr39
         have u46_0 := chk_some u46
         have n1_u46_0 : (p13.length + 1) * 24 ≤ 140737488355328 := by omega
         have n2_u46_0 : p13.length + 1 ≤ 9223372036854775807 := by omega
         refine ee_reg rfl (by simp [n1_u46_0, n2_u46_0, c25, c25M, c26, c27, c28, c29, c40, c40M, c45]; rfl) ?_
         simp only [pq, reduceCtorEq]
         exact ee_join (key := 1000013) (kq := ⟨[2, 3, 4, 8, 10, 11, 34, 35, 36], [4, 8, 51, 1000000000033], []⟩) rfl rfl rfl (by simp [und, List.replicate, c25, c25M, c26, c27, c28, c29, c40, c40M, c45]) (J44 (mput (strOf x41) true p12, p13 ++ [x41]) hr39)
      ·skip
       have c40N := c40
       try simp at c40N
       first | have c40M : (_ = _) = True := eq_true c40N | have c40M := c40N
       rw [if_neg] at hr39
       rotate_left
       ·simp [c25, c25M, c26, c27, c28, c29, c40, c40M]
       refine ee_seq_condF (by simp [bV, c25, c25M, c26, c27, c28, c29, c40, c40M]) ?_
       refine ee_seq_exit ?_
       obtain ⟨r47, q47, rfl⟩ := ms hr39
       simp only [pq, reduceCtorEq]
       rintro rfl
       try simp only [pq, reduceCtorEq]
       unfold Lgolomb_Build_k1 at q47
       obtain ⟨y48, hy48, q47⟩ := bs q47
       have ehy48 := G30_eq hy48
       simp only [E30, R30, nf, nfs] at ehy48
       obtain ⟨y49, hy49, q47⟩ := bs q47
       have ehy49 := G13_eq hy49
       simp only [E13, R13, nf, nfs] at ehy49
       refine ee_seq_reg rfl (by simp [hO, hT30, ehy48, hT13, ehy49, c25, c25M, c26, c27, c28, c29, c40, c40M]; rfl) ?_
       refine ee_ret ?_
       obtain rfl := Option.some.inj q47
       simp [FinQ, hO, hT30, ehy48, hT13, ehy49, c25, c25M, c26, c27, c28, c29, c40, c40M, c25N, c40N]
def kp12 : Keep := fun i => ⟨[], [], []⟩
theorem w12 {T : Tab} (hO : T.own = fun _ => []) (hT13 : T 13 = some G13) (hT17 : T 17 = some G17) (x : Bool) (hr : Llaw19_sane  = some x) : ∃ kp fl n, execFn tt T G kp fl n Try.f12 (E12 ()) = some (R12 () x) := by
 simp only [E12, R12]
 refine fnE (kp := kp12) (w := false) body12 (by simp) ?_
 unfold c12
 rw [Try.ntmps12]
 unfold Llaw19_sane at hr
 refine ee_seq_reg rfl (by simp []; rfl) ?_
 obtain ⟨y5, hy5, hr⟩ := bs hr
 have ehy5 := G13_eq hy5
 simp only [E13, R13, nf, nfs] at ehy5
 refine ee_seq_reg rfl (by simp [List.range, List.range.loop, hO, hT13, ehy5]; rfl) ?_
 obtain ⟨y6, hy6, hr⟩ := bs hr
 have ehy6 := G17_eq hy6
 simp only [E17, R17, nf, nfs] at ehy6
 try simp only [arC_lit, ints_cons, ints_nil] at ehy6
 refine ee_seq_reg rfl (by simp [hO, hT17, ehy6]; rfl) ?_
 by_cases c7 : y5.2 = 0
 ·skip
  by_cases c8 : y5.1.1 = 2
  ·skip
   by_cases c9 : (y5.1.2.length : Int) = 1
   ·skip
    have c9N := c9
    try simp at c9N
    rw [if_pos] at hr
    rotate_left
    ·simp [eq_true c7, eq_true c8, eq_true c9, eq_true c9N]
    obtain ⟨z10, hz10, hr⟩ := bs hr
    obtain ⟨x11, hx11, hz10⟩ := bs hz10
    have hx11c := getE_of hx11
    obtain rfl := Option.some.inj hz10
    by_cases c12 : x11 = 40
    ·skip
     by_cases c13 : y6.2 = 0
     ·skip
      by_cases c14 : y6.1.1 = 0
      ·skip
       refine ee_seq_reg rfl (by simp [hx11, hx11c, eq_true c7, eq_true c8, eq_true c9, eq_true c9N, eq_true c12, eq_true c13, eq_true c14]; rfl) ?_
       refine ee_ret ?_
       obtain rfl := Option.some.inj hr
       simp [FinQ, hx11, hx11c, eq_true c7, eq_true c8, eq_true c9, eq_true c9N, eq_true c12, eq_true c13, eq_true c14]
      ·skip
       refine ee_seq_reg rfl (by simp [hx11, hx11c, eq_true c7, eq_true c8, eq_true c9, eq_true c9N, eq_true c12, eq_true c13, c14]; rfl) ?_
       refine ee_ret ?_
       obtain rfl := Option.some.inj hr
       simp [FinQ, hx11, hx11c, eq_true c7, eq_true c8, eq_true c9, eq_true c9N, eq_true c12, eq_true c13, c14]
     ·skip
      refine ee_seq_reg rfl (by simp [hx11, hx11c, eq_true c7, eq_true c8, eq_true c9, eq_true c9N, eq_true c12, c13]; rfl) ?_
      refine ee_ret ?_
      obtain rfl := Option.some.inj hr
      simp [FinQ, hx11, hx11c, eq_true c7, eq_true c8, eq_true c9, eq_true c9N, eq_true c12, c13]
    ·skip
     refine ee_seq_reg rfl (by simp [hx11, hx11c, eq_true c7, eq_true c8, eq_true c9, eq_true c9N, c12]; rfl) ?_
     refine ee_ret ?_
     obtain rfl := Option.some.inj hr
     simp [FinQ, hx11, hx11c, eq_true c7, eq_true c8, eq_true c9, eq_true c9N, c12]
   ·skip
    have c9N := c9
    try simp at c9N
    first | have c9M : (_ = _) = True := eq_true c9N | have c9M := c9N
    rw [if_neg] at hr
    rotate_left
    ·simp [eq_true c7, eq_true c8, c9, c9M]
    obtain ⟨z15, hz15, hr⟩ := bs hr
    obtain rfl := Option.some.inj hz15
    refine ee_seq_reg rfl (by simp [eq_true c7, eq_true c8, c9, c9M]; rfl) ?_
    refine ee_ret ?_
    obtain rfl := Option.some.inj hr
    simp [FinQ, eq_true c7, eq_true c8, c9, c9M, c9N]
  ·skip
   rw [if_neg] at hr
   rotate_left
   ·simp [eq_true c7, c8]
   obtain ⟨z16, hz16, hr⟩ := bs hr
   obtain rfl := Option.some.inj hz16
   refine ee_seq_reg rfl (by simp [eq_true c7, c8]; rfl) ?_
   refine ee_ret ?_
   obtain rfl := Option.some.inj hr
   simp [FinQ, eq_true c7, c8]
 ·skip
  rw [if_neg] at hr
  rotate_left
  ·simp [c7]
  obtain ⟨z17, hz17, hr⟩ := bs hr
  obtain rfl := Option.some.inj hz17
  refine ee_seq_reg rfl (by simp [c7]; rfl) ?_
  refine ee_ret ?_
  obtain rfl := Option.some.inj hr
  simp [FinQ, c7]
def kp29 : Keep := fun i => ⟨[], [], []⟩
theorem w29 {T : Tab} (a0 : (List Int)) (a1 : (List Int)) (x : Bool) (hr : Lref01_Same a0 a1 = some x) : ∃ kp fl n, execFn tt T G kp fl n Try.f29 (E29 (a0, a1)) = some (R29 (a0, a1) x) := by
 simp only [E29, R29]
 refine fnE (kp := kp29) (w := false) body29 (by simp) ?_
 unfold c29
 rw [Try.ntmps29]
 unfold Lref01_Same at hr
 refine ee_seq_reg rfl (by simp []; rfl) ?_
 refine ee_seq_reg rfl (by simp []; rfl) ?_
 refine ee_ret ?_
 obtain rfl := Option.some.inj hr
 simp [FinQ, ]
def kp15 : Keep := fun i => ⟨[], [], []⟩
theorem w15 {T : Tab} (hO : T.own = fun _ => []) (hT29 : T 29 = some G29) (a0 : Tapi_Filter) (a1 : Tapi_Filter) (x : Bool) (hr : Lref19_Same a0 a1 = some x) : ∃ kp fl n, execFn tt T G kp fl n Try.f15 (E15 (a0, a1)) = some (R15 (a0, a1) x) := by
 simp only [E15, R15]
 refine fnE (kp := kp15) (w := false) body15 (by simp) ?_
 unfold c15
 rw [Try.ntmps15]
 unfold Lref19_Same at hr
 refine ee_seq_reg rfl (by simp []; rfl) ?_
 by_cases c3 : a0.1 = a1.1
 ·skip
  rw [if_pos] at hr
  rotate_left
  ·simp [eq_true c3]
  obtain ⟨z4, hz4, hr⟩ := bs hr
  obtain ⟨y5, hy5, hz4⟩ := bs hz4
  have ehy5 := G29_eq hy5
  simp only [E29, R29, nf, nfs] at ehy5
  obtain rfl := Option.some.inj hz4
  refine ee_seq_reg rfl (by simp [hO, hT29, ehy5, eq_true c3]; rfl) ?_
  refine ee_ret ?_
  obtain rfl := Option.some.inj hr
  simp [FinQ, hO, hT29, ehy5, eq_true c3]
 ·skip
  rw [if_neg] at hr
  rotate_left
  ·simp [c3]
  obtain ⟨z6, hz6, hr⟩ := bs hr
  obtain rfl := Option.some.inj hz6
  refine ee_seq_reg rfl (by simp [c3]; rfl) ?_
  refine ee_ret ?_
  obtain rfl := Option.some.inj hr
  simp [FinQ, c3]
def kp21 : Keep := fun i => if i = 4 then ⟨[0, 1, 12, 13], [], []⟩ else ⟨[], [], []⟩
theorem w21 {T : Tab} (a0 : (List Int)) (a1 : (List Int)) (x : Bool) (hr : Llaw19_same a0 a1 = some x) : ∃ kp fl n, execFn tt T G kp fl n Try.f21 (E21 (a0, a1)) = some (R21 (a0, a1) x) := by
 simp only [E21, R21]
 refine fnE (kp := kp21) (w := false) body21 (by simp) ?_
 unfold c21
 rw [Try.ntmps21]
 unfold Llaw19_same at hr
 refine ee_seq_reg rfl (by simp []; rfl) ?_
 refine ee_assoc ?_
 refine ee_seq_reg rfl (by simp []; rfl) ?_
 by_cases c11 : (a0.length : Int) = (a1.length : Int)
 ·skip
  have c11N := c11
  try simp at c11N
  rw [if_neg (not_not_intro c11)] at hr
  refine ee_seq_condF (by simp [bV, eq_true c11, eq_true c11N]) ?_
  refine ee_seq_skip ?_
  refine ee_assoc ?_
  refine ee_seq_reg rfl (by simp [eq_true c11, eq_true c11N]; rfl) ?_
  refine ee_seq_block ?_
  refine ee_loop (kq := ⟨[0, 1, 12, 13], [], []⟩) (H := fun (s : Int) => match s with | p6 => (⟨([.one (.slice .no (intsR .u64 a0)), .one (.slice .no (intsR .u64 a1))] ++ (und 10 ++ ([.one (.v (.int .i64 (a0.length : Int))), .one (.v (.int .i64 p6))] ++ (und 12))) : List PV), ([] : Boxes)⟩ : ASt)) (by kernel_rfl) hr (by simp [und, List.replicate, eq_true c11, eq_true c11N]) ?_
  rintro p6 x18r hr18
  simp only [Llaw19_same_s1] at hr18
  unfold b21_1
  simp only [und, List.replicate, List.cons_append, List.nil_append]
  refine ee_seq_reg rfl (by simp [eq_true c11, eq_true c11N]; rfl) ?_
  by_cases c19 : p6 < (a0.length : Int)
  ·skip
   have c19N := c19
   try simp at c19N
   first | have c19M : (_ = _) = True := eq_true c19N | have c19M := c19N
   rw [if_pos] at hr18
   rotate_left
   ·simp [eq_true c11, eq_true c11N, c19, c19M]
   refine ee_seq_condT (by simp [bV, eq_true c11, eq_true c11N, c19, c19M]) ?_
   refine ee_seq_skip ?_
   refine ee_seq_block ?_
   refine ee_seq_reg rfl (by simp [eq_true c11, eq_true c11N, c19, c19M]; rfl) ?_
   obtain ⟨x20, hx20, hr18⟩ := bs hr18
   obtain ⟨hx20a, hx20b⟩ := idx_some hx20
   have hx20c := getE_of hx20b
   obtain ⟨x21, hx21, hr18⟩ := bs hr18
   obtain ⟨hx21a, hx21b⟩ := idx_some hx21
   have hx21c := getE_of hx21b
   refine ee_seq_draw rfl (by simp [hx20a, hx20b, hx20c, hx21a, hx21b, hx21c, eq_true c11, eq_true c11N, c19, c19M]; first | exact ⟨rfl, rfl⟩ | rfl) (by kernel_rfl) ?_
   by_cases c22 : x20 = x21
   ·skip
    rw [if_neg (not_not_intro c22)] at hr18
    refine ee_condF (by simp [bV, eq_true c11, eq_true c11N, c19, c19M, eq_true c22]) ?_
    refine ee_skip ?_
    simp only [pq, reduceCtorEq]
    refine ee_reg rfl (by simp [eq_true c11, eq_true c11N, c19, c19M, eq_true c22]; rfl) ?_
    obtain rfl := Option.some.inj hr18
    simp only [pq, reduceCtorEq]
    simp [und, List.replicate, Nat.add_assoc, eq_true c11, eq_true c11N, c19, c19M, eq_true c22]
   ·skip
    rw [if_pos c22] at hr18
    refine ee_condT (by simp [bV, eq_true c11, eq_true c11N, c19, c19M, c22]) ?_
    refine ee_seq_reg rfl (by simp [eq_true c11, eq_true c11N, c19, c19M, c22]; rfl) ?_
    refine ee_ret ?_
    obtain rfl := Option.some.inj hr18
    simp only [pq, reduceCtorEq]
    rintro rfl
    simp [FinQ, eq_true c11, eq_true c11N, c19, c19M, c22, c19N]
  ·skip
   have c19N := c19
   try simp at c19N
   first | have c19M : (_ = _) = True := eq_true c19N | have c19M := c19N
   rw [if_neg] at hr18
   rotate_left
   ·simp [eq_true c11, eq_true c11N, c19, c19M]
   refine ee_seq_condF (by simp [bV, eq_true c11, eq_true c11N, c19, c19M]) ?_
   refine ee_seq_exit ?_
   obtain ⟨r23, q23, rfl⟩ := ms hr18
   simp only [pq, reduceCtorEq]
   rintro rfl
   try simp only [pq, reduceCtorEq]
   unfold Llaw19_same_k1 at q23
   refine ee_seq_reg rfl (by simp [eq_true c11, eq_true c11N, c19, c19M]; rfl) ?_
   refine ee_ret ?_
   obtain rfl := Option.some.inj q23
   simp [FinQ, eq_true c11, eq_true c11N, c19, c19M, c19N]
 ·skip
  have c11N := c11
  try simp at c11N
  first | have c11M : (_ = _) = True := eq_true c11N | have c11M := c11N
  rw [if_pos c11] at hr
  refine ee_seq_condT (by simp [bV, c11, c11M]) ?_
  refine ee_assoc ?_
  refine ee_seq_reg rfl (by simp [c11, c11M]; rfl) ?_
  refine ee_seq_ret ?_
  obtain rfl := Option.some.inj hr
  simp [FinQ, c11, c11M, c11N]
def kp52 : Keep := fun i => ⟨[], [], []⟩
theorem w52 {T : Tab} (a0 : Tapi_Bits) (a1 : Int) (x : Bool) (hr : Lbits_bit a0 a1 = some x) : ∃ kp fl n, execFn tt T G kp fl n Try.f52 (E52 (a0, a1)) = some (R52 (a0, a1) x) := by
 simp only [E52, R52]
 refine fnE (kp := kp52) (w := false) body52 (by simp) ?_
 unfold c52
 rw [Try.ntmps52]
 unfold Lbits_bit at hr
 refine ee_seq_reg rfl (by simp []; rfl) ?_
 obtain ⟨x3, hx3, hr⟩ := bs hr
 obtain ⟨hx3a, hx3b⟩ := idx_some hx3
 have hx3c := getE_of hx3b
 obtain ⟨_, u4, hr⟩ := bs hr
 have u4_0 := chk_some u4
 refine ee_seq_draw rfl (by simp [hx3a, hx3b, hx3c, u4_0]; first | exact ⟨rfl, rfl⟩ | rfl) (by kernel_rfl) ?_
 refine ee_ret ?_
 obtain rfl := Option.some.inj hr
 simp [FinQ, hx3a, hx3b, hx3c, u4_0]
def kp53 : Keep := fun i => if i = 3 then ⟨[1, 3, 7, 9, 10], [3], []⟩ else if i = 1000008 then ⟨[1, 3, 7, 9, 10], [3], []⟩ else ⟨[], [], []⟩
theorem w53 {T : Tab} (hO : T.own = fun _ => []) (hT52 : T 52 = some G52) (a0 : Tapi_Bits) (a1 : Int) (a2 : Int) (x : Int) (hr : Lbits_number a0 a1 a2 = some x) : ∃ kp fl n, execFn tt T G kp fl n Try.f53 (E53 (a0, a1, a2)) = some (R53 (a0, a1, a2) x) := by
 simp only [E53, R53]
 refine fnE (kp := kp53) (w := false) body53 (by simp) ?_
 unfold c53
 rw [Try.ntmps53]
 unfold Lbits_number at hr
 refine ee_seq_reg rfl (by simp []; rfl) ?_
 refine ee_seq_reg rfl (by simp []; rfl) ?_
 refine ee_assoc ?_
 refine ee_seq_reg rfl (by simp []; rfl) ?_
 refine ee_seq_block ?_
 refine ee_loop (kq := ⟨[1, 3, 7, 9, 10], [3], []⟩) (H := fun (s : Int × Int) => match s with | (p7, p8) => (⟨(und 1 ++ ([.one (.v (.int .i64 a1))] ++ (und 1 ++ ([.ptr 3 0 0 0 2] ++ (und 3 ++ ([.one (.v (.int .u64 p7))] ++ (und 1 ++ ([.one (.v (.int .i64 a2)), .one (.v (.int .i64 p8))] ++ (und 13)))))))) : List PV), ([(3, ⟨0, 2, [[.slice .no (intsR .u8 a0.1), .v (.int .i64 a0.2)]], false, false⟩)] : Boxes)⟩ : ASt)) (by kernel_rfl) hr (by simp [und, List.replicate, ]) ?_
 rintro ⟨p7, p8⟩ x20r hr20
 simp only [Lbits_number_s1] at hr20
 unfold b53_1
 simp only [und, List.replicate, List.cons_append, List.nil_append]
 refine ee_seq_reg rfl (by simp []; rfl) ?_
 by_cases c21 : p8 < a2
 ·skip
  rw [if_pos] at hr20
  rotate_left
  ·simp [c21]
  refine ee_seq_condT (by simp [bV, c21]) ?_
  refine ee_seq_skip ?_
  refine ee_seq_block ?_
  refine ee_seq_reg rfl (by simp [c21]; rfl) ?_
  refine ee_seq_reg rfl (by simp [c21]; rfl) ?_
  obtain ⟨y22, hy22, hr20⟩ := bs hr20
  have ehy22 := G52_eq hy22
  simp only [E52, R52, nf, nfs] at ehy22
  refine ee_seq_reg rfl (by simp [hO, hT52, ehy22, c21]; rfl) ?_
  refine ee_J hr20 (.normal) (fun (s : Int) => match s with | p12 => (⟨(und 1 ++ ([.one (.v (.int .i64 a1))] ++ (und 1 ++ ([.ptr 3 0 0 0 2] ++ (und 3 ++ ([.one (.v (.int .u64 p12))] ++ (und 1 ++ ([.one (.v (.int .i64 a2)), .one (.v (.int .i64 p8))] ++ (und 13)))))))) : List PV), ([(3, ⟨0, 2, [[.slice .no (intsR .u8 a0.1), .v (.int .i64 a0.2)]], false, false⟩)] : Boxes)⟩ : ASt)) (fun (s : Int) => match s with | p12 => Lbits_number_k2 p8 p12) ?_ ?_
  ·skip
   rintro p12 hk24
   change Lbits_number_k2 p8 p12 = _ at hk24
   simp only [pq, reduceCtorEq]
   simp only [und, List.replicate, List.cons_append, List.nil_append]
   unfold Lbits_number_k2 at hk24
   refine ee_regJ rfl (kq := ⟨[1, 3, 7, 9, 10], [3], []⟩) rfl (by simp [joinSt, c21]; rfl) (by simp [c21]; rfl) ?_
   obtain rfl := Option.some.inj hk24
   simp only [pq, reduceCtorEq]
   simp [und, List.replicate, Nat.add_assoc, c21]
  ·skip
   intro J24
   simp only [pq, reduceCtorEq] at J24
   by_cases c25 : y22 = true
   ·skip
    rw [if_pos c25] at hr20
    refine ee_condT (by simp [bV, c21, c25]) ?_
    refine ee_reg rfl (by simp [c21, c25]; rfl) ?_
    simp only [pq, reduceCtorEq]
    exact ee_join (key := 1000008) (kq := ⟨[1, 3, 7, 9, 10], [3], []⟩) rfl rfl rfl (by simp [und, List.replicate, c21, c25]) (J24 (bits .or .u64 (IntKind.u64.wrap (p7 * 2)) 1) hr20)
   ·skip
    rw [if_neg c25] at hr20
    refine ee_condF (by simp [bV, c21, c25]) ?_
    refine ee_skip ?_
    simp only [pq, reduceCtorEq]
    exact ee_join (key := 1000008) (kq := ⟨[1, 3, 7, 9, 10], [3], []⟩) rfl rfl rfl (by simp [und, List.replicate, c21, c25]) (J24 (IntKind.u64.wrap (p7 * 2)) hr20)
 ·skip
  rw [if_neg] at hr20
  rotate_left
  ·simp [c21]
  refine ee_seq_condF (by simp [bV, c21]) ?_
  refine ee_seq_exit ?_
  obtain ⟨r26, q26, rfl⟩ := ms hr20
  simp only [pq, reduceCtorEq]
  rintro rfl
  try simp only [pq, reduceCtorEq]
  unfold Lbits_number_k1 at q26
  refine ee_seq_reg rfl (by simp [c21]; rfl) ?_
  refine ee_ret ?_
  obtain rfl := Option.some.inj q26
  simp [FinQ, c21]
def kp35 : Keep := fun i => if i = 1000010 then ⟨[1, 2, 3, 9], [3], []⟩ else if i = 6 then ⟨[1, 2, 3, 9], [3], []⟩ else ⟨[], [], []⟩
theorem w35 {T : Tab} (hO : T.own = fun _ => []) (hT40 : T 40 = some G40) (hT52 : T 52 = some G52) (hT53 : T 53 = some G53) (a0 : Tapi_Bits) (a1 : Int) (a2 : Int) (x : Int × Int × Int) (hr : Lbits_ReadRice a0 a1 a2 = some x) : ∃ kp fl n, execFn tt T G kp fl n Try.f35 (E35 (a0, a1, a2)) = some (R35 (a0, a1, a2) x) := by
 simp only [E35, R35]
 refine fnE (kp := kp35) (w := false) body35 (by simp) ?_
 unfold c35
 rw [Try.ntmps35]
 unfold Lbits_ReadRice at hr
 refine ee_seq_reg rfl (by simp []; rfl) ?_
 refine ee_assoc ?_
 obtain ⟨y14, hy14, hr⟩ := bs hr
 have ehy14 := G40_eq hy14
 simp only [E40, R40, nf, nfs] at ehy14
 refine ee_seq_reg rfl (by simp [hO, hT40, ehy14]; rfl) ?_
 by_cases c15 : y14 = true
 ·skip
  rw [if_neg (not_not_intro c15)] at hr
  refine ee_seq_condF (by simp [bV, c15]) ?_
  refine ee_seq_skip ?_
  refine ee_assoc ?_
  by_cases c16 : a2 < 0
  ·skip
   refine ee_seq_reg rfl (by simp [c15, c16]; rfl) ?_
   rw [if_pos] at hr
   rotate_left
   ·simp [c15, c16]
   refine ee_seq_condT (by simp [bV, c15, c16]) ?_
   refine ee_assoc ?_
   refine ee_seq_reg rfl (by simp [c15, c16]; rfl) ?_
   refine ee_seq_ret ?_
   obtain rfl := Option.some.inj hr
   simp [FinQ, c15, c16]
  ·skip
   by_cases c17 : 32 < a2
   ·skip
    refine ee_seq_reg rfl (by simp [c15, c16, c17]; rfl) ?_
    rw [if_pos] at hr
    rotate_left
    ·simp [c15, c16, c17]
    refine ee_seq_condT (by simp [bV, c15, c16, c17]) ?_
    refine ee_assoc ?_
    refine ee_seq_reg rfl (by simp [c15, c16, c17]; rfl) ?_
    refine ee_seq_ret ?_
    obtain rfl := Option.some.inj hr
    simp [FinQ, c15, c16, c17]
   ·skip
    by_cases c18 : a1 < 0
    ·skip
     refine ee_seq_reg rfl (by simp [c15, c16, c17, c18]; rfl) ?_
     rw [if_pos] at hr
     rotate_left
     ·simp [c15, c16, c17, c18]
     refine ee_seq_condT (by simp [bV, c15, c16, c17, c18]) ?_
     refine ee_assoc ?_
     refine ee_seq_reg rfl (by simp [c15, c16, c17, c18]; rfl) ?_
     refine ee_seq_ret ?_
     obtain rfl := Option.some.inj hr
     simp [FinQ, c15, c16, c17, c18]
    ·skip
     refine ee_seq_reg rfl (by simp [c15, c16, c17, c18]; rfl) ?_
     by_cases c19 : a0.2 < a1
     ·skip
      rw [if_pos] at hr
      rotate_left
      ·simp [c15, c16, c17, c18, c19]
      refine ee_seq_condT (by simp [bV, c15, c16, c17, c18, c19]) ?_
      refine ee_assoc ?_
      refine ee_seq_reg rfl (by simp [c15, c16, c17, c18, c19]; rfl) ?_
      refine ee_seq_ret ?_
      obtain rfl := Option.some.inj hr
      simp [FinQ, c15, c16, c17, c18, c19]
     ·skip
      rw [if_neg] at hr
      rotate_left
      ·simp [c15, c16, c17, c18, c19]
      refine ee_seq_condF (by simp [bV, c15, c16, c17, c18, c19]) ?_
      refine ee_seq_skip ?_
      refine ee_seq_reg rfl (by simp [c15, c16, c17, c18, c19]; rfl) ?_
      refine ee_seq_block ?_
      refine ee_J hr (.exit 0) (fun (s : Int) => match s with | p7 => (⟨(und 1 ++ ([.one (.v (.int .i64 a1)), .one (.v (.int .i64 a2)), .ptr 3 0 0 0 2] ++ (und 5 ++ ([.one (.v (.int .i64 p7))] ++ (und 60)))) : List PV), ([(3, ⟨0, 2, [[.slice .no (intsR .u8 a0.1), .v (.int .i64 a0.2)]], false, false⟩)] : Boxes)⟩ : ASt)) (fun (s : Int) => match s with | p7 => Lbits_ReadRice_k1 a0 p7 a2 a1) ?_ ?_
      ·skip
       rintro p7 hk29
       change Lbits_ReadRice_k1 a0 p7 a2 a1 = _ at hk29
       simp only [pq, reduceCtorEq]
       simp only [und, List.replicate, List.cons_append, List.nil_append]
       unfold Lbits_ReadRice_k1 at hk29
       refine ee_assoc ?_
       refine ee_seq_regJ rfl (kq := ⟨[1, 2, 3, 9], [3], []⟩) rfl (by simp [joinSt, c15, c16, c17, c18, c19]; rfl) (by simp [c15, c16, c17, c18, c19]; rfl) ?_
       by_cases c30 : IntKind.i64.wrap (a0.2 - p7) < IntKind.i64.wrap (1 + a2)
       ·skip
        rw [if_pos c30] at hk29
        refine ee_seq_condT (by simp [bV, c15, c16, c17, c18, c19, c30]) ?_
        refine ee_assoc ?_
        refine ee_seq_reg rfl (by simp [c15, c16, c17, c18, c19, c30]; rfl) ?_
        refine ee_seq_ret ?_
        obtain rfl := Option.some.inj hk29
        simp [FinQ, c15, c16, c17, c18, c19, c30]
       ·skip
        rw [if_neg c30] at hk29
        refine ee_seq_condF (by simp [bV, c15, c16, c17, c18, c19, c30]) ?_
        refine ee_seq_skip ?_
        obtain ⟨_, u31, hk29⟩ := bs hk29
        have u31_0 := chk_some u31
        obtain ⟨y32, hy32, hk29⟩ := bs hk29
        have ehy32 := G53_eq hy32
        simp only [E53, R53, nf, nfs] at ehy32
        refine ee_seq_draw rfl (by simp [u31_0, hO, hT53, ehy32, c15, c16, c17, c18, c19, c30]; first | exact ⟨rfl, rfl⟩ | rfl) (by kernel_rfl) ?_
        refine ee_seq_reg rfl (by simp [c15, c16, c17, c18, c19, c30]; rfl) ?_
        refine ee_ret ?_
        obtain rfl := Option.some.inj hk29
        simp [FinQ, c15, c16, c17, c18, c19, c30]
      ·skip
       intro J29
       simp only [pq, reduceCtorEq] at J29
       refine ee_loop (kq := ⟨[1, 2, 3, 9], [3], []⟩) (H := fun (s : Int) => match s with | p7 => (⟨(und 1 ++ ([.one (.v (.int .i64 a1)), .one (.v (.int .i64 a2)), .ptr 3 0 0 0 2] ++ (und 5 ++ ([.one (.v (.int .i64 p7))] ++ (und 60)))) : List PV), ([(3, ⟨0, 2, [[.slice .no (intsR .u8 a0.1), .v (.int .i64 a0.2)]], false, false⟩)] : Boxes)⟩ : ASt)) (by kernel_rfl) hr (by simp [und, List.replicate, c15, c16, c17, c18, c19]) ?_
       rintro p7 x33r hr33
       simp only [Lbits_ReadRice_s1] at hr33
       unfold b35_1
       simp only [und, List.replicate, List.cons_append, List.nil_append]
       refine ee_assoc ?_
       by_cases c34 : p7 < a0.2
       ·skip
        rw [if_pos] at hr33
        rotate_left
        ·simp [c15, c16, c17, c18, c19, c34]
        obtain ⟨z35, hz35, hr33⟩ := bs hr33
        obtain ⟨y36, hy36, hz35⟩ := bs hz35
        have ehy36 := G52_eq hy36
        simp only [E52, R52, nf, nfs] at ehy36
        obtain rfl := Option.some.inj hz35
        refine ee_seq_reg rfl (by simp [hO, hT52, ehy36, c15, c16, c17, c18, c19, c34]; rfl) ?_
        by_cases c37 : y36 = true
        ·skip
         rw [if_pos] at hr33
         rotate_left
         ·simp [c15, c16, c17, c18, c19, c34, c37]
         refine ee_seq_condT (by simp [bV, c15, c16, c17, c18, c19, c34, c37]) ?_
         refine ee_seq_skip ?_
         refine ee_block ?_
         refine ee_seq_reg rfl (by simp [c15, c16, c17, c18, c19, c34, c37]; rfl) ?_
         refine ee_seq_reg rfl (by simp [c15, c16, c17, c18, c19, c34, c37]; rfl) ?_
         by_cases c38 : 65536 < IntKind.i64.wrap ((IntKind.i64.wrap (p7 + 1)) - a1)
         ·skip
          rw [if_pos] at hr33
          rotate_left
          ·simp [c15, c16, c17, c18, c19, c34, c37, c38]
          refine ee_condT (by simp [bV, c15, c16, c17, c18, c19, c34, c37, c38]) ?_
          refine ee_seq_reg rfl (by simp [c15, c16, c17, c18, c19, c34, c37, c38]; rfl) ?_
          refine ee_ret ?_
          obtain rfl := Option.some.inj hr33
          simp only [pq, reduceCtorEq]
          rintro rfl
          simp [FinQ, c15, c16, c17, c18, c19, c34, c37, c38]
         ·skip
          rw [if_neg] at hr33
          rotate_left
          ·simp [c15, c16, c17, c18, c19, c34, c37, c38]
          refine ee_condF (by simp [bV, c15, c16, c17, c18, c19, c34, c37, c38]) ?_
          refine ee_skip ?_
          obtain rfl := Option.some.inj hr33
          simp only [pq, reduceCtorEq]
          simp [und, List.replicate, Nat.add_assoc, c15, c16, c17, c18, c19, c34, c37, c38]
        ·skip
         rw [if_neg] at hr33
         rotate_left
         ·simp [c15, c16, c17, c18, c19, c34, c37]
         refine ee_seq_condF (by simp [bV, c15, c16, c17, c18, c19, c34, c37]) ?_
         refine ee_seq_exit ?_
         obtain ⟨r39, q39, rfl⟩ := ms hr33
         simp only [pq, reduceCtorEq]
         rintro rfl
         try simp only [pq, reduceCtorEq]
         exact ee_join (key := 1000010) (kq := ⟨[1, 2, 3, 9], [3], []⟩) rfl rfl rfl (by simp [und, List.replicate, c15, c16, c17, c18, c19, c34, c37]) (J29 p7 q39)
       ·skip
        rw [if_neg] at hr33
        rotate_left
        ·simp [c15, c16, c17, c18, c19, c34]
        obtain ⟨z40, hz40, hr33⟩ := bs hr33
        obtain rfl := Option.some.inj hz40
        refine ee_seq_reg rfl (by simp [c15, c16, c17, c18, c19, c34]; rfl) ?_
        rw [if_neg] at hr33
        rotate_left
        ·simp [c15, c16, c17, c18, c19, c34]
        refine ee_seq_condF (by simp [bV, c15, c16, c17, c18, c19, c34]) ?_
        refine ee_seq_exit ?_
        obtain ⟨r41, q41, rfl⟩ := ms hr33
        simp only [pq, reduceCtorEq]
        rintro rfl
        try simp only [pq, reduceCtorEq]
        exact ee_join (key := 1000010) (kq := ⟨[1, 2, 3, 9], [3], []⟩) rfl rfl rfl (by simp [und, List.replicate, c15, c16, c17, c18, c19, c34]) (J29 p7 q41)
 ·skip
  rw [if_pos c15] at hr
  refine ee_seq_condT (by simp [bV, c15]) ?_
  refine ee_assoc ?_
  refine ee_seq_reg rfl (by simp [c15]; rfl) ?_
  refine ee_seq_ret ?_
  obtain rfl := Option.some.inj hr
  simp [FinQ, c15]
end Go.Proofs.Ytmjbklblgpnagaa
