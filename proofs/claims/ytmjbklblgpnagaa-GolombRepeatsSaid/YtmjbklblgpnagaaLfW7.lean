import Derived.Test.YtmjbklblgpnagaaLfK
import Derived.Test.YtmjbklblgpnagaaCode
import Derived.Test.YtmjbklblgpnagaaBl
namespace Go.Proofs.Ytmjbklblgpnagaa
open Go.RowKit
open Go.Av
open Go.Lc
set_option maxRecDepth 100000
set_option linter.unusedSimpArgs false
set_option linter.unusedVariables false
set_option maxHeartbeats 4000000
variable {G : Glob}
def kp49_12 : Keep := fun i => ⟨[], [], []⟩
theorem w49_12 {T : Tab} (hO : T.own = fun d => if d = 10 then [[1000001]] else []) (hT62 : T 62 = some G62_10) (hT63 : T 63 = some G63) (a0 : (List Int)) (x : (List Int)) (hr : Lslices_Sort_of__uint64_uint64 a0 = some x) : ∃ kp fl n, execFn tt T G kp fl n Try.f49 (E49_12 a0) = some (R49_12 a0 x) := by
 simp only [E49_12, R49_12]
 refine fnE (kp := kp49_12) (w := false) body49 (by simp) ?_
 unfold c49
 rw [Try.ntmps49]
 unfold Lslices_Sort_of__uint64_uint64 at hr
 refine ee_seq_reg rfl (by simp [-intsR_st, intsR_set]; rfl) ?_
 obtain ⟨y4, hy4, hr⟩ := bs hr
 have ehy4 := G63_eq hy4
 simp only [E63, R63, nf, nfs] at ehy4
 try simp only [intsR_set] at ehy4
 obtain ⟨y5, hy5, hr⟩ := bs hr
 have ehy5 := G62_10_eq hy5
 simp only [E62_10, R62_10, nf, nfs] at ehy5
 try simp only [intsR_set] at ehy5
 obtain ⟨_, u6, hr⟩ := bs hr
 have u6_0 := chk_some u6
 have ck7 := chunk_ints1 (k := .u64) u6_0
 refine ee_reg rfl (by simp [-intsR_st, intsR_set, hO, hT63, ehy4, hT62, ehy5, ck7, u6_0]; rfl) ?_
 obtain ⟨_, u8, hr⟩ := bs hr
 have u8_0 := chk_some u8
 try simp only [u6_0] at u8_0
 obtain rfl := Option.some.inj hr
 simp [-intsR_st, intsR_set, FinQ, hO, hT63, ehy4, hT62, ehy5, ck7, u6_0, u8_0]
def kp30 : Keep := fun i => if i = 3 then ⟨[2, 3, 4, 9, 12, 13, 14], [4, 28], [(9, none, 28, 1)]⟩ else ⟨[], [], []⟩
theorem w30 {T : Tab} (hO : T.own = fun d => if d = 31 then [[1000001]] else []) (hT47 : T 47 = some G47) (hT48 : T 48 = some G48) (hT49 : T 49 = some G49_12) (a0 : (Arr 2)) (a1 : (List (List Int))) (a2 : Int) (a3 : Int) (x : (List Int)) (hr : Lgolomb_values a0 a1 a2 a3 = some x) : ∃ kp fl n, execFn tt T G kp fl n Try.f30 (E30 (a0, a1, a2, a3)) = some (R30 (a0, a1, a2, a3) x) := by
 simp only [E30, R30]
 refine fnE (kp := kp30) (w := true) body30 (by simp) ?_
 unfold c30
 rw [Try.ntmps30]
 unfold Lgolomb_values at hr
 refine ee_seq_reg rfl (by simp []; rfl) ?_
 refine ee_seq_reg rfl (by simp []; rfl) ?_
 refine ee_assoc ?_
 refine ee_seq_reg rfl (by simp []; rfl) ?_
 refine ee_seq_block ?_
 refine ee_loop (kq := ⟨[2, 3, 4, 9, 12, 13, 14], [4, 28], [(9, none, 28, 1)]⟩) (H := fun (s : Int × (List Int)) => match s with | (p10, p11) => (⟨(und 2 ++ ([.one (.v (.int .i64 a2)), .one (.v (.int .u64 a3)), .ptr 4 0 0 0 2] ++ (und 4 ++ ([.one (.ms 28 0 0 (p11.length) 1)] ++ (und 2 ++ ([.one (.slice .no (List.map eS_I_u8 a1)), .one (.v (.int .i64 (a1.length : Int))), .one (.v (.int .i64 p10))] ++ (und 18)))))) : List PV), ([(4, ⟨0, 2, [arC .u64 a0], false, false⟩), (28, ⟨0, 1, intsR .u64 p11, false, true⟩)] : Boxes)⟩ : ASt)) (by kernel_rfl) hr (by simp [und, List.replicate, ]) ?_
 rintro ⟨p10, p11⟩ x29r hr29
 simp only [Lgolomb_values_s1] at hr29
 unfold b30_1
 simp only [und, List.replicate, List.cons_append, List.nil_append]
 refine ee_seq_reg rfl (by simp []; rfl) ?_
 by_cases c30 : p10 < (a1.length : Int)
 ·skip
  have c30N := c30
  try simp at c30N
  first | have c30M : (_ = _) = True := eq_true c30N | have c30M := c30N
  rw [if_pos] at hr29
  rotate_left
  ·simp [c30, c30M]
  refine ee_seq_condT (by simp [bV, c30, c30M]) ?_
  refine ee_seq_skip ?_
  refine ee_seq_block ?_
  obtain ⟨x31, hx31, hr29⟩ := bs hr29
  obtain ⟨hx31a, hx31b⟩ := idx_some hx31
  have hx31c := getE_of hx31b
  refine ee_seq_reg rfl (by simp [hx31a, hx31b, hx31c, c30, c30M]; rfl) ?_
  obtain ⟨y32, hy32, hr29⟩ := bs hr29
  have ehy32 := G48_eq hy32
  simp only [E48, R48, nf, nfs] at ehy32
  obtain ⟨y33, hy33, hr29⟩ := bs hr29
  have ehy33 := G47_eq hy33
  simp only [E47, R47, nf, nfs] at ehy33
  obtain ⟨_, u34, hr29⟩ := bs hr29
  have u34_0 := chk_some u34
  have n1_u34_0 : (p11.length + 1) * 8 ≤ 140737488355328 := by omega
  have n2_u34_0 : p11.length + 1 ≤ 9223372036854775807 := by omega
  refine ee_reg rfl (by simp [hO, hT48, ehy32, hT47, ehy33, n1_u34_0, n2_u34_0, c30, c30M]; rfl) ?_
  simp only [pq, reduceCtorEq]
  refine ee_reg rfl (by simp [c30, c30M]; rfl) ?_
  obtain rfl := Option.some.inj hr29
  simp only [pq, reduceCtorEq]
  simp [und, List.replicate, Nat.add_assoc, c30, c30M]
 ·skip
  have c30N := c30
  try simp at c30N
  first | have c30M : (_ = _) = True := eq_true c30N | have c30M := c30N
  rw [if_neg] at hr29
  rotate_left
  ·simp [c30, c30M]
  refine ee_seq_condF (by simp [bV, c30, c30M]) ?_
  refine ee_seq_exit ?_
  obtain ⟨r35, q35, rfl⟩ := ms hr29
  simp only [pq, reduceCtorEq]
  rintro rfl
  try simp only [pq, reduceCtorEq]
  unfold Lgolomb_values_k1 at q35
  obtain ⟨y36, hy36, q35⟩ := bs q35
  have ehy36 := G49_12_eq hy36
  simp only [E49_12, R49_12, nf, nfs] at ehy36
  obtain ⟨_, u37, q35⟩ := bs q35
  have u37_0 := chk_some u37
  have ck38 := chunk_ints1 (k := .u64) u37_0
  refine ee_seq_reg rfl (by simp [hO, hT49, ehy36, ck38, u37_0, c30, c30M]; rfl) ?_
  refine ee_seq_reg rfl (by simp [c30, c30M, u37_0]; rfl) ?_
  refine ee_ret ?_
  obtain rfl := Option.some.inj q35
  simp [FinQ, c30, c30M, u37_0, c30N]
def kp17 : Keep := fun i => if i = 8 then ⟨[2, 3, 4, 8, 10, 11, 34, 35, 36], [4, 8, 51, 1000000000033], [(11, none, 51, 1)]⟩ else if i = 1000013 then ⟨[2, 3, 4, 8, 10, 11, 34, 35, 36], [4, 8, 51, 1000000000033], []⟩ else ⟨[], [], []⟩
theorem w17 {T : Tab} (hO : T.own = fun _ => []) (hT13 : T 13 = some G13) (hT30 : T 30 = some G30) (a0 : (Arr 2)) (a1 : (List (List Int))) (a2 : Int) (a3 : Int) (x : Tapi_Filter × Int) (hr : Lgolomb_Build a0 a1 a2 a3 = some x) : ∃ kp fl n, execFn tt T G kp fl n Try.f17 (E17 (a0, a1, a2, a3)) = some (R17 (a0, a1, a2, a3) x) := by
 simp only [E17, R17]
 refine fnE (kp := kp17) (w := false) body17 (by simp) ?_
 unfold c17
 rw [Try.ntmps17]
 unfold Lgolomb_Build at hr
 refine ee_seq_reg rfl (by simp []; rfl) ?_
 refine ee_assoc ?_
 refine ee_seq_reg rfl (by simp []; rfl) ?_
 by_cases c25 : 4096 < (a1.length : Int)
 ·skip
  have c25N := c25
  try simp at c25N
  first | have c25M : (_ = _) = True := eq_true c25N | have c25M := c25N
  rw [if_pos c25] at hr
  refine ee_seq_condT (by simp [bV, c25, c25M]) ?_
  refine ee_assoc ?_
  refine ee_seq_reg rfl (by simp [c25, c25M]; rfl) ?_
  refine ee_seq_ret ?_
  obtain rfl := Option.some.inj hr
  simp [FinQ, c25, c25M, c25N]
 ·skip
  have c25N := c25
  try simp at c25N
  first | have c25M : (_ = _) = True := eq_true c25N | have c25M := c25N
  rw [if_neg c25] at hr
  refine ee_seq_condF (by simp [bV, c25, c25M]) ?_
  refine ee_seq_skip ?_
  refine ee_assoc ?_
  by_cases c26 : a3 < 1
  ·skip
   refine ee_seq_reg rfl (by simp [c25, c25M, c26]; rfl) ?_
   rw [if_pos] at hr
   rotate_left
   ·simp [c25, c25M, c26]
   refine ee_seq_condT (by simp [bV, c25, c25M, c26]) ?_
   refine ee_assoc ?_
   refine ee_seq_reg rfl (by simp [c25, c25M, c26]; rfl) ?_
   refine ee_seq_ret ?_
   obtain rfl := Option.some.inj hr
   simp [FinQ, c25, c25M, c26, c25N]
  ·skip
   by_cases c27 : 1099511627776 < a3
   ·skip
    refine ee_seq_reg rfl (by simp [c25, c25M, c26, c27]; rfl) ?_
    rw [if_pos] at hr
    rotate_left
    ·simp [c25, c25M, c26, c27]
    refine ee_seq_condT (by simp [bV, c25, c25M, c26, c27]) ?_
    refine ee_assoc ?_
    refine ee_seq_reg rfl (by simp [c25, c25M, c26, c27]; rfl) ?_
    refine ee_seq_ret ?_
    obtain rfl := Option.some.inj hr
    simp [FinQ, c25, c25M, c26, c27, c25N]
   ·skip
    by_cases c28 : a2 < 0
    ·skip
     refine ee_seq_reg rfl (by simp [c25, c25M, c26, c27, c28]; rfl) ?_
     rw [if_pos] at hr
     rotate_left
     ·simp [c25, c25M, c26, c27, c28]
     refine ee_seq_condT (by simp [bV, c25, c25M, c26, c27, c28]) ?_
     refine ee_assoc ?_
     refine ee_seq_reg rfl (by simp [c25, c25M, c26, c27, c28]; rfl) ?_
     refine ee_seq_ret ?_
     obtain rfl := Option.some.inj hr
     simp [FinQ, c25, c25M, c26, c27, c28, c25N]
    ·skip
     refine ee_seq_reg rfl (by simp [c25, c25M, c26, c27, c28]; rfl) ?_
     by_cases c29 : 32 < a2
     ·skip
      rw [if_pos] at hr
      rotate_left
      ·simp [c25, c25M, c26, c27, c28, c29]
      refine ee_seq_condT (by simp [bV, c25, c25M, c26, c27, c28, c29]) ?_
      refine ee_assoc ?_
      refine ee_seq_reg rfl (by simp [c25, c25M, c26, c27, c28, c29]; rfl) ?_
      refine ee_seq_ret ?_
      obtain rfl := Option.some.inj hr
      simp [FinQ, c25, c25M, c26, c27, c28, c29, c25N]
     ·skip
      rw [if_neg] at hr
      rotate_left
      ·simp [c25, c25M, c26, c27, c28, c29]
      refine ee_seq_condF (by simp [bV, c25, c25M, c26, c27, c28, c29]) ?_
      refine ee_seq_skip ?_
      refine ee_seq_reg rfl (by simp [c25, c25M, c26, c27, c28, c29]; rfl) ?_
      refine ee_seq_reg rfl (by simp [c25, c25M, c26, c27, c28, c29]; rfl) ?_
      refine ee_assoc ?_
      refine ee_seq_reg rfl (by simp [c25, c25M, c26, c27, c28, c29]; rfl) ?_
      refine ee_seq_block ?_
      refine ee_loop (kq := ⟨[2, 3, 4, 8, 10, 11, 34, 35, 36], [4, 8, 51, 1000000000033], [(11, none, 51, 1)]⟩) (H := fun (s : Int × (List (ByteArray × Bool)) × (List (List Int))) => match s with | (p11, p12, p13) => (⟨(und 2 ++ ([.one (.v (.int .i64 a2)), .one (.v (.int .u64 a3)), .ptr 4 0 0 0 2] ++ (und 3 ++ ([.ptr 8 0 0 0 2] ++ (und 1 ++ ([.one (.mp 1000000000033 0), .one (.ms 51 0 0 (p13.length) 1)] ++ (und 22 ++ ([.one (.slice .no (List.map eS_I_u8 a1)), .one (.v (.int .i64 (a1.length : Int))), .one (.v (.int .i64 p11))] ++ (und 26)))))))) : List PV), ([(4, ⟨0, 2, [arC .u64 a0], false, false⟩), (8, ⟨0, 2, [[.v (.int .i64 0), .slice .nil []]], false, false⟩), (51, ⟨0, 1, List.map eS_I_u8 p13, false, true⟩), (1000000000033, ⟨0, 4, ([.v (.string (⟨#[]⟩))]) :: List.map eM_Str_B p12, false, false⟩)] : Boxes)⟩ : ASt)) (by kernel_rfl) hr (by simp [und, List.replicate, c25, c25M, c26, c27, c28, c29]) ?_
      rintro ⟨p11, p12, p13⟩ x39r hr39
      simp only [Lgolomb_Build_s1] at hr39
      unfold b17_1
      simp only [und, List.replicate, List.cons_append, List.nil_append]
      refine ee_seq_reg rfl (by simp [c25, c25M, c26, c27, c28, c29]; rfl) ?_
      by_cases c40 : p11 < (a1.length : Int)
      ·skip
       have c40N := c40
       try simp at c40N
       first | have c40M : (_ = _) = True := eq_true c40N | have c40M := c40N
       rw [if_pos] at hr39
       rotate_left
       ·simp [c25, c25M, c26, c27, c28, c29, c40, c40M]
       refine ee_seq_condT (by simp [bV, c25, c25M, c26, c27, c28, c29, c40, c40M]) ?_
       refine ee_seq_skip ?_
       refine ee_seq_block ?_
       obtain ⟨x41, hx41, hr39⟩ := bs hr39
       obtain ⟨hx41a, hx41b⟩ := idx_some hx41
       have hx41c := getE_of hx41b
       refine ee_seq_reg rfl (by simp [hx41a, hx41b, hx41c, c25, c25M, c26, c27, c28, c29, c40, c40M]; rfl) ?_
       refine ee_seq_reg rfl (by simp [c25, c25M, c26, c27, c28, c29, c40, c40M]; rfl) ?_
       refine ee_J hr39 (.normal) (fun (s : (List (ByteArray × Bool)) × (List (List Int))) => match s with | (p22, p23) => (⟨(und 2 ++ ([.one (.v (.int .i64 a2)), .one (.v (.int .u64 a3)), .ptr 4 0 0 0 2] ++ (und 3 ++ ([.ptr 8 0 0 0 2] ++ (und 1 ++ ([.one (.mp 1000000000033 0), .one (.ms 51 0 0 (p23.length) 1)] ++ (und 22 ++ ([.one (.slice .no (List.map eS_I_u8 a1)), .one (.v (.int .i64 (a1.length : Int))), .one (.v (.int .i64 p11))] ++ (und 26)))))))) : List PV), ([(4, ⟨0, 2, [arC .u64 a0], false, false⟩), (8, ⟨0, 2, [[.v (.int .i64 0), .slice .nil []]], false, false⟩), (51, ⟨0, 1, List.map eS_I_u8 p23, false, true⟩), (1000000000033, ⟨0, 4, ([.v (.string (⟨#[]⟩))]) :: List.map eM_Str_B p22, false, false⟩)] : Boxes)⟩ : ASt)) (fun (s : (List (ByteArray × Bool)) × (List (List Int))) => match s with | (p22, p23) => Lgolomb_Build_k2 p11 p22 p23) ?_ ?_
       ·skip
        rintro ⟨p22, p23⟩ hk44
        change Lgolomb_Build_k2 p11 p22 p23 = _ at hk44
        simp only [pq, reduceCtorEq]
        simp only [und, List.replicate, List.cons_append, List.nil_append]
        unfold Lgolomb_Build_k2 at hk44
        refine ee_regJ rfl (kq := ⟨[2, 3, 4, 8, 10, 11, 34, 35, 36], [4, 8, 51, 1000000000033], []⟩) rfl (by simp [joinSt, c25, c25M, c26, c27, c28, c29, c40, c40M]; rfl) (by simp [c25, c25M, c26, c27, c28, c29, c40, c40M]; rfl) ?_
        obtain rfl := Option.some.inj hk44
        simp only [pq, reduceCtorEq]
        simp [und, List.replicate, Nat.add_assoc, c25, c25M, c26, c27, c28, c29, c40, c40M]
       ·skip
        intro J44
        simp only [pq, reduceCtorEq] at J44
        by_cases c45 : (mget (strOf x41) p12).getD false = true
        ·skip
         rw [if_neg] at hr39
         rotate_left
         ·simp [c25, c25M, c26, c27, c28, c29, c40, c40M, c45]
         refine ee_condF (by simp [bV, c25, c25M, c26, c27, c28, c29, c40, c40M, c45]) ?_
         refine ee_skip ?_
         simp only [pq, reduceCtorEq]
         exact ee_join (key := 1000013) (kq := ⟨[2, 3, 4, 8, 10, 11, 34, 35, 36], [4, 8, 51, 1000000000033], []⟩) rfl rfl rfl (by simp [und, List.replicate, c25, c25M, c26, c27, c28, c29, c40, c40M, c45]) (J44 (p12, p13) hr39)
        ·skip
         rw [if_pos] at hr39
         rotate_left
         ·simp [c25, c25M, c26, c27, c28, c29, c40, c40M, c45]
         refine ee_condT (by simp [bV, c25, c25M, c26, c27, c28, c29, c40, c40M, c45]) ?_
         refine ee_seq_reg rfl (by simp [c25, c25M, c26, c27, c28, c29, c40, c40M, c45]; rfl) ?_
         obtain ⟨_, u46, hr39⟩ := bs hr39
         have u46_0 := chk_some u46
         have n1_u46_0 : (p13.length + 1) * 24 ≤ 140737488355328 := by omega
         have n2_u46_0 : p13.length + 1 ≤ 9223372036854775807 := by omega
         refine ee_reg rfl (by simp [n1_u46_0, n2_u46_0, c25, c25M, c26, c27, c28, c29, c40, c40M, c45]; rfl) ?_
         simp only [pq, reduceCtorEq]
         exact ee_join (key := 1000013) (kq := ⟨[2, 3, 4, 8, 10, 11, 34, 35, 36], [4, 8, 51, 1000000000033], []⟩) rfl rfl rfl (by simp [und, List.replicate, c25, c25M, c26, c27, c28, c29, c40, c40M, c45]) (J44 (mput (strOf x41) true p12, p13 ++ [x41]) hr39)
      ·skip
       have c40N := c40
       try simp at c40N
       first | have c40M : (_ = _) = True := eq_true c40N | have c40M := c40N
       rw [if_neg] at hr39
       rotate_left
       ·simp [c25, c25M, c26, c27, c28, c29, c40, c40M]
       refine ee_seq_condF (by simp [bV, c25, c25M, c26, c27, c28, c29, c40, c40M]) ?_
       refine ee_seq_exit ?_
       obtain ⟨r47, q47, rfl⟩ := ms hr39
       simp only [pq, reduceCtorEq]
       rintro rfl
       try simp only [pq, reduceCtorEq]
       unfold Lgolomb_Build_k1 at q47
       obtain ⟨y48, hy48, q47⟩ := bs q47
       have ehy48 := G30_eq hy48
       simp only [E30, R30, nf, nfs] at ehy48
       obtain ⟨y49, hy49, q47⟩ := bs q47
       have ehy49 := G13_eq hy49
       simp only [E13, R13, nf, nfs] at ehy49
       refine ee_seq_reg rfl (by simp [hO, hT30, ehy48, hT13, ehy49, c25, c25M, c26, c27, c28, c29, c40, c40M]; rfl) ?_
       refine ee_ret ?_
       obtain rfl := Option.some.inj q47
       simp [FinQ, hO, hT30, ehy48, hT13, ehy49, c25, c25M, c26, c27, c28, c29, c40, c40M, c25N, c40N]
def kp12 : Keep := fun i => ⟨[], [], []⟩
theorem w12 {T : Tab} (hO : T.own = fun _ => []) (hT13 : T 13 = some G13) (hT17 : T 17 = some G17) (x : Bool) (hr : Llaw19_sane  = some x) : ∃ kp fl n, execFn tt T G kp fl n Try.f12 (E12 ()) = some (R12 () x) := by
 simp only [E12, R12]
 refine fnE (kp := kp12) (w := false) body12 (by simp) ?_
 unfold c12
 rw [Try.ntmps12]
 unfold Llaw19_sane at hr
 refine ee_seq_reg rfl (by simp []; rfl) ?_
 obtain ⟨y5, hy5, hr⟩ := bs hr
 have ehy5 := G13_eq hy5
 simp only [E13, R13, nf, nfs] at ehy5
 refine ee_seq_reg rfl (by simp [List.range, List.range.loop, hO, hT13, ehy5]; rfl) ?_
 obtain ⟨y6, hy6, hr⟩ := bs hr
 have ehy6 := G17_eq hy6
 simp only [E17, R17, nf, nfs] at ehy6
 try simp only [arC_lit, ints_cons, ints_nil] at ehy6
 refine ee_seq_reg rfl (by simp [hO, hT17, ehy6]; rfl) ?_
 by_cases c7 : y5.2 = 0
 ·skip
  by_cases c8 : y5.1.1 = 2
  ·skip
   by_cases c9 : (y5.1.2.length : Int) = 1
   ·skip
    have c9N := c9
    try simp at c9N
    rw [if_pos] at hr
    rotate_left
    ·simp [eq_true c7, eq_true c8, eq_true c9, eq_true c9N]
    obtain ⟨z10, hz10, hr⟩ := bs hr
    obtain ⟨x11, hx11, hz10⟩ := bs hz10
    have hx11c := getE_of hx11
    obtain rfl := Option.some.inj hz10
    by_cases c12 : x11 = 40
    ·skip
     by_cases c13 : y6.2 = 0
     ·skip
      by_cases c14 : y6.1.1 = 0
      ·skip
       refine ee_seq_reg rfl (by simp [hx11, hx11c, eq_true c7, eq_true c8, eq_true c9, eq_true c9N, eq_true c12, eq_true c13, eq_true c14]; rfl) ?_
       refine ee_ret ?_
       obtain rfl := Option.some.inj hr
       simp [FinQ, hx11, hx11c, eq_true c7, eq_true c8, eq_true c9, eq_true c9N, eq_true c12, eq_true c13, eq_true c14]
      ·skip
       refine ee_seq_reg rfl (by simp [hx11, hx11c, eq_true c7, eq_true c8, eq_true c9, eq_true c9N, eq_true c12, eq_true c13, c14]; rfl) ?_
       refine ee_ret ?_
       obtain rfl := Option.some.inj hr
       simp [FinQ, hx11, hx11c, eq_true c7, eq_true c8, eq_true c9, eq_true c9N, eq_true c12, eq_true c13, c14]
     ·skip
      refine ee_seq_reg rfl (by simp [hx11, hx11c, eq_true c7, eq_true c8, eq_true c9, eq_true c9N, eq_true c12, c13]; rfl) ?_
      refine ee_ret ?_
      obtain rfl := Option.some.inj hr
      simp [FinQ, hx11, hx11c, eq_true c7, eq_true c8, eq_true c9, eq_true c9N, eq_true c12, c13]
    ·skip
     refine ee_seq_reg rfl (by simp [hx11, hx11c, eq_true c7, eq_true c8, eq_true c9, eq_true c9N, c12]; rfl) ?_
     refine ee_ret ?_
     obtain rfl := Option.some.inj hr
     simp [FinQ, hx11, hx11c, eq_true c7, eq_true c8, eq_true c9, eq_true c9N, c12]
   ·skip
    have c9N := c9
    try simp at c9N
    first | have c9M : (_ = _) = True := eq_true c9N | have c9M := c9N
    rw [if_neg] at hr
    rotate_left
    ·simp [eq_true c7, eq_true c8, c9, c9M]
    obtain ⟨z15, hz15, hr⟩ := bs hr
    obtain rfl := Option.some.inj hz15
    refine ee_seq_reg rfl (by simp [eq_true c7, eq_true c8, c9, c9M]; rfl) ?_
    refine ee_ret ?_
    obtain rfl := Option.some.inj hr
    simp [FinQ, eq_true c7, eq_true c8, c9, c9M, c9N]
  ·skip
   rw [if_neg] at hr
   rotate_left
   ·simp [eq_true c7, c8]
   obtain ⟨z16, hz16, hr⟩ := bs hr
   obtain rfl := Option.some.inj hz16
   refine ee_seq_reg rfl (by simp [eq_true c7, c8]; rfl) ?_
   refine ee_ret ?_
   obtain rfl := Option.some.inj hr
   simp [FinQ, eq_true c7, c8]
 ·skip
  rw [if_neg] at hr
  rotate_left
  ·simp [c7]
  obtain ⟨z17, hz17, hr⟩ := bs hr
  obtain rfl := Option.some.inj hz17
  refine ee_seq_reg rfl (by simp [c7]; rfl) ?_
  refine ee_ret ?_
  obtain rfl := Option.some.inj hr
  simp [FinQ, c7]
def kp29 : Keep := fun i => ⟨[], [], []⟩
theorem w29 {T : Tab} (a0 : (List Int)) (a1 : (List Int)) (x : Bool) (hr : Lref01_Same a0 a1 = some x) : ∃ kp fl n, execFn tt T G kp fl n Try.f29 (E29 (a0, a1)) = some (R29 (a0, a1) x) := by
 simp only [E29, R29]
 refine fnE (kp := kp29) (w := false) body29 (by simp) ?_
 unfold c29
 rw [Try.ntmps29]
 unfold Lref01_Same at hr
 refine ee_seq_reg rfl (by simp []; rfl) ?_
 refine ee_seq_reg rfl (by simp []; rfl) ?_
 refine ee_ret ?_
 obtain rfl := Option.some.inj hr
 simp [FinQ, ]
def kp15 : Keep := fun i => ⟨[], [], []⟩
theorem w15 {T : Tab} (hO : T.own = fun _ => []) (hT29 : T 29 = some G29) (a0 : Tapi_Filter) (a1 : Tapi_Filter) (x : Bool) (hr : Lref19_Same a0 a1 = some x) : ∃ kp fl n, execFn tt T G kp fl n Try.f15 (E15 (a0, a1)) = some (R15 (a0, a1) x) := by
 simp only [E15, R15]
 refine fnE (kp := kp15) (w := false) body15 (by simp) ?_
 unfold c15
 rw [Try.ntmps15]
 unfold Lref19_Same at hr
 refine ee_seq_reg rfl (by simp []; rfl) ?_
 by_cases c3 : a0.1 = a1.1
 ·skip
  rw [if_pos] at hr
  rotate_left
  ·simp [eq_true c3]
  obtain ⟨z4, hz4, hr⟩ := bs hr
  obtain ⟨y5, hy5, hz4⟩ := bs hz4
  have ehy5 := G29_eq hy5
  simp only [E29, R29, nf, nfs] at ehy5
  obtain rfl := Option.some.inj hz4
  refine ee_seq_reg rfl (by simp [hO, hT29, ehy5, eq_true c3]; rfl) ?_
  refine ee_ret ?_
  obtain rfl := Option.some.inj hr
  simp [FinQ, hO, hT29, ehy5, eq_true c3]
 ·skip
  rw [if_neg] at hr
  rotate_left
  ·simp [c3]
  obtain ⟨z6, hz6, hr⟩ := bs hr
  obtain rfl := Option.some.inj hz6
  refine ee_seq_reg rfl (by simp [c3]; rfl) ?_
  refine ee_ret ?_
  obtain rfl := Option.some.inj hr
  simp [FinQ, c3]
def kp16 : Keep := fun i => if i = 4 then ⟨[2, 13, 14, 15], [], []⟩ else ⟨[], [], []⟩
theorem w16 {T : Tab} (a0 : (List (List Int))) (a1 : Int) (a2 : Int) (x : Bool) (hr : Lkeep_Items a0 a1 a2 = some x) : ∃ kp fl n, execFn tt T G kp fl n Try.f16 (E16 (a0, a1, a2)) = some (R16 (a0, a1, a2) x) := by
 simp only [E16, R16]
 refine fnE (kp := kp16) (w := false) body16 (by simp) ?_
 unfold c16
 rw [Try.ntmps16]
 unfold Lkeep_Items at hr
 refine ee_seq_reg rfl (by simp []; rfl) ?_
 refine ee_assoc ?_
 refine ee_seq_reg rfl (by simp []; rfl) ?_
 by_cases c7 : a1 < (a0.length : Int)
 ·skip
  have c7N := c7
  try simp at c7N
  first | have c7M : (_ = _) = True := eq_true c7N | have c7M := c7N
  rw [if_pos c7] at hr
  refine ee_seq_condT (by simp [bV, c7, c7M]) ?_
  refine ee_assoc ?_
  refine ee_seq_reg rfl (by simp [c7, c7M]; rfl) ?_
  refine ee_seq_ret ?_
  obtain rfl := Option.some.inj hr
  simp [FinQ, c7, c7M, c7N]
 ·skip
  have c7N := c7
  try simp at c7N
  first | have c7M : (_ = _) = True := eq_true c7N | have c7M := c7N
  rw [if_neg c7] at hr
  refine ee_seq_condF (by simp [bV, c7, c7M]) ?_
  refine ee_seq_skip ?_
  refine ee_assoc ?_
  refine ee_seq_reg rfl (by simp [c7, c7M]; rfl) ?_
  refine ee_seq_block ?_
  refine ee_loop (kq := ⟨[2, 13, 14, 15], [], []⟩) (H := fun (s : Int) => match s with | p4 => (⟨(und 2 ++ ([.one (.v (.int .i64 a2))] ++ (und 10 ++ ([.one (.slice .no (List.map eS_I_u8 a0)), .one (.v (.int .i64 (a0.length : Int))), .one (.v (.int .i64 p4))] ++ (und 8)))) : List PV), ([] : Boxes)⟩ : ASt)) (by kernel_rfl) hr (by simp [und, List.replicate, c7, c7M]) ?_
  rintro p4 x13r hr13
  simp only [Lkeep_Items_s1] at hr13
  unfold b16_1
  simp only [und, List.replicate, List.cons_append, List.nil_append]
  refine ee_seq_reg rfl (by simp [c7, c7M]; rfl) ?_
  by_cases c14 : p4 < (a0.length : Int)
  ·skip
   have c14N := c14
   try simp at c14N
   first | have c14M : (_ = _) = True := eq_true c14N | have c14M := c14N
   rw [if_pos] at hr13
   rotate_left
   ·simp [c7, c7M, c14, c14M]
   refine ee_seq_condT (by simp [bV, c7, c7M, c14, c14M]) ?_
   refine ee_seq_skip ?_
   refine ee_seq_block ?_
   obtain ⟨x15, hx15, hr13⟩ := bs hr13
   obtain ⟨hx15a, hx15b⟩ := idx_some hx15
   have hx15c := getE_of hx15b
   refine ee_seq_reg rfl (by simp [hx15a, hx15b, hx15c, c7, c7M, c14, c14M]; rfl) ?_
   refine ee_seq_reg rfl (by simp [c7, c7M, c14, c14M]; rfl) ?_
   by_cases c16 : a2 < (x15.length : Int)
   ·skip
    have c16N := c16
    try simp at c16N
    first | have c16M : (_ = _) = True := eq_true c16N | have c16M := c16N
    rw [if_pos c16] at hr13
    refine ee_condT (by simp [bV, c7, c7M, c14, c14M, c16, c16M]) ?_
    refine ee_seq_reg rfl (by simp [c7, c7M, c14, c14M, c16, c16M]; rfl) ?_
    refine ee_ret ?_
    obtain rfl := Option.some.inj hr13
    simp only [pq, reduceCtorEq]
    rintro rfl
    simp [FinQ, c7, c7M, c14, c14M, c16, c16M, c7N, c14N, c16N]
   ·skip
    have c16N := c16
    try simp at c16N
    first | have c16M : (_ = _) = True := eq_true c16N | have c16M := c16N
    rw [if_neg c16] at hr13
    refine ee_condF (by simp [bV, c7, c7M, c14, c14M, c16, c16M]) ?_
    refine ee_skip ?_
    simp only [pq, reduceCtorEq]
    refine ee_reg rfl (by simp [c7, c7M, c14, c14M, c16, c16M]; rfl) ?_
    obtain rfl := Option.some.inj hr13
    simp only [pq, reduceCtorEq]
    simp [und, List.replicate, Nat.add_assoc, c7, c7M, c14, c14M, c16, c16M]
  ·skip
   have c14N := c14
   try simp at c14N
   first | have c14M : (_ = _) = True := eq_true c14N | have c14M := c14N
   rw [if_neg] at hr13
   rotate_left
   ·simp [c7, c7M, c14, c14M]
   refine ee_seq_condF (by simp [bV, c7, c7M, c14, c14M]) ?_
   refine ee_seq_exit ?_
   obtain ⟨r17, q17, rfl⟩ := ms hr13
   simp only [pq, reduceCtorEq]
   rintro rfl
   try simp only [pq, reduceCtorEq]
   unfold Lkeep_Items_k1 at q17
   refine ee_seq_reg rfl (by simp [c7, c7M, c14, c14M]; rfl) ?_
   refine ee_ret ?_
   obtain rfl := Option.some.inj q17
   simp [FinQ, c7, c7M, c14, c14M, c7N, c14N]
def kp5 : Keep := fun i => ⟨[], [], []⟩
theorem w5 {T : Tab} (hO : T.own = fun _ => []) (hT12 : T 12 = some G12) (hT15 : T 15 = some G15) (hT16 : T 16 = some G16) (hT17 : T 17 = some G17) (a0 : (Arr 2)) (a1 : (List (List Int))) (a2 : Int) (a3 : Int) (a4 : Int) (x : Bool) (hr : Llaw19_GolombRepeats a0 a1 a2 a3 a4 = some x) : ∃ kp fl n, execFn tt T G kp fl n Try.f5 (E5 (a0, a1, a2, a3, a4)) = some (R5 (a0, a1, a2, a3, a4) x) := by
 simp only [E5, R5]
 refine fnE (kp := kp5) (w := false) body5 (by simp) ?_
 unfold c5
 rw [Try.ntmps5]
 unfold Llaw19_GolombRepeats at hr
 refine ee_seq_reg rfl (by simp [Nat.add_assoc, ]; rfl) ?_
 refine ee_assoc ?_
 obtain ⟨y13, hy13, hr⟩ := bs hr
 have ehy13 := G12_eq hy13
 simp only [E12, R12, nf, nfs] at ehy13
 refine ee_seq_reg rfl (by simp [Nat.add_assoc, hO, hT12, ehy13]; rfl) ?_
 by_cases c14 : y13 = true
 ·skip
  rw [if_neg (not_not_intro c14)] at hr
  refine ee_seq_condF (by simp [Nat.add_assoc, bV, c14]) ?_
  refine ee_seq_skip ?_
  refine ee_assoc ?_
  obtain ⟨y15, hy15, hr⟩ := bs hr
  have ehy15 := G16_eq hy15
  simp only [E16, R16, nf, nfs] at ehy15
  by_cases c16 : y15 = true
  ·skip
   refine ee_seq_reg rfl (by simp [Nat.add_assoc, hO, hT16, ehy15, c14, c16]; rfl) ?_
   by_cases c17 : (a1.length : Int) = 0
   ·skip
    have c17N := c17
    try simp at c17N
    rw [if_pos] at hr
    rotate_left
    ·simp [Nat.add_assoc, c14, c16, eq_true c17, eq_true c17N]
    refine ee_seq_condT (by simp [Nat.add_assoc, bV, c14, c16, eq_true c17, eq_true c17N]) ?_
    refine ee_assoc ?_
    refine ee_seq_reg rfl (by simp [Nat.add_assoc, c14, c16, eq_true c17, eq_true c17N]; rfl) ?_
    refine ee_seq_ret ?_
    obtain rfl := Option.some.inj hr
    simp [Nat.add_assoc, FinQ, c14, c16, eq_true c17, eq_true c17N]
   ·skip
    have c17N := c17
    try simp at c17N
    first | have c17M : (_ = _) = True := eq_true c17N | have c17M := c17N
    rw [if_neg] at hr
    rotate_left
    ·simp [Nat.add_assoc, c14, c16, c17, c17M]
    refine ee_seq_condF (by simp [Nat.add_assoc, bV, c14, c16, c17, c17M]) ?_
    refine ee_seq_skip ?_
    refine ee_seq_reg rfl (by simp [Nat.add_assoc, c14, c16, c17, c17M]; rfl) ?_
    obtain ⟨_, u18, hr⟩ := bs hr
    have u18_0 := chk_some u18
    refine ee_seq_reg rfl (by simp [Nat.add_assoc, u18_0, c14, c16, c17, c17M]; rfl) ?_
    obtain ⟨y19, hy19, hr⟩ := bs hr
    have ehy19 := G17_eq hy19
    simp only [E17, R17, nf, nfs] at ehy19
    refine ee_seq_reg rfl (by simp [Nat.add_assoc, hO, hT17, ehy19, c14, c16, c17, c17M]; rfl) ?_
    obtain ⟨_, u20, hr⟩ := bs hr
    obtain ⟨u20_0, u20_1⟩ := chk_some u20
    have sf21 : ((IntKind.i64.wrap (a2)).tmod (a1.length : Int)).toNat ≤ a1.length := by omega
    obtain ⟨_, u22, hr⟩ := bs hr
    have u22_0 := chk_some u22
    have n1_u22_0 : (((a1).drop (((IntKind.i64.wrap (a2)).tmod (a1.length : Int)).toNat)).length) * 24 ≤ 140737488355328 := by omega
    have n2_u22_0 : ((a1).drop (((IntKind.i64.wrap (a2)).tmod (a1.length : Int)).toNat)).length ≤ 9223372036854775807 := by omega
    have n1s_u22_0 := n1_u22_0
    try simp only [List.length_drop, List.length_take, Nat.sub_le_iff_le_add, Nat.min_eq_left, sf21] at n1s_u22_0
    have n2s_u22_0 := n2_u22_0
    try simp only [List.length_drop, List.length_take, Nat.sub_le_iff_le_add, Nat.min_eq_left, sf21] at n2s_u22_0
    obtain ⟨_, u23, hr⟩ := bs hr
    have u23_0 := chk_some u23
    have n1_u23_0 : (((a1).drop (((IntKind.i64.wrap (a2)).tmod (a1.length : Int)).toNat)).length + a1.length) * 24 ≤ 140737488355328 := by omega
    have n2_u23_0 : ((a1).drop (((IntKind.i64.wrap (a2)).tmod (a1.length : Int)).toNat)).length + a1.length ≤ 9223372036854775807 := by omega
    have n1s_u23_0 := n1_u23_0
    try simp only [List.length_drop, List.length_take, Nat.sub_le_iff_le_add, Nat.min_eq_left, sf21] at n1s_u23_0
    have n2s_u23_0 := n2_u23_0
    try simp only [List.length_drop, List.length_take, Nat.sub_le_iff_le_add, Nat.min_eq_left, sf21] at n2s_u23_0
    obtain ⟨_, u24, hr⟩ := bs hr
    obtain ⟨u24_0, u24_1⟩ := chk_some u24
    have sf25 : ((IntKind.i64.wrap (a2)).tmod (a1.length : Int)).toNat ≤ a1.length := by omega
    have sf26 : 0 ≤ (IntKind.i64.wrap (a2)).tmod (a1.length : Int) := by omega
    obtain ⟨_, u27, hr⟩ := bs hr
    have u27_0 := chk_some u27
    have n1_u27_0 : (((a1).drop (((IntKind.i64.wrap (a2)).tmod (a1.length : Int)).toNat)).length + (a1.length + ((a1).take (((IntKind.i64.wrap (a2)).tmod (a1.length : Int)).toNat)).length)) * 24 ≤ 140737488355328 := by
     have h := u27_0
     try simp at h
     omega
    have n2_u27_0 : ((a1).drop (((IntKind.i64.wrap (a2)).tmod (a1.length : Int)).toNat)).length + (a1.length + ((a1).take (((IntKind.i64.wrap (a2)).tmod (a1.length : Int)).toNat)).length) ≤ 9223372036854775807 := by
     have h := u27_0
     try simp at h
     omega
    have n1s_u27_0 := n1_u27_0
    try simp only [List.length_drop, List.length_take, Nat.sub_le_iff_le_add, Nat.min_eq_left, sf21, sf25, sf26] at n1s_u27_0
    have n2s_u27_0 := n2_u27_0
    try simp only [List.length_drop, List.length_take, Nat.sub_le_iff_le_add, Nat.min_eq_left, sf21, sf25, sf26] at n2s_u27_0
    obtain ⟨y28, hy28, hr⟩ := bs hr
    have ehy28 := G17_eq hy28
    simp only [E17, R17, nf, nfs] at ehy28
    refine ee_seq_draw rfl (by simp [Nat.add_assoc, u20_0, u20_1, sf21, n1_u22_0, n2_u22_0, n1s_u22_0, n2s_u22_0, n1_u23_0, n2_u23_0, n1s_u23_0, n2s_u23_0, u24_0, u24_1, sf25, sf26, n1_u27_0, n2_u27_0, n1s_u27_0, n2s_u27_0, hO, hT17, ehy28, c14, c16, c17, c17M]; first | exact ⟨rfl, rfl⟩ | rfl) (by kernel_rfl) ?_
    by_cases c29 : y19.2 = y28.2
    ·skip
     rw [if_pos] at hr
     rotate_left
     ·simp [Nat.add_assoc, c14, c16, c17, c17M, eq_true c29]
     obtain ⟨z30, hz30, hr⟩ := bs hr
     obtain ⟨y31, hy31, hz30⟩ := bs hz30
     have ehy31 := G15_eq hy31
     simp only [E15, R15, nf, nfs] at ehy31
     obtain rfl := Option.some.inj hz30
     refine ee_seq_reg rfl (by simp [Nat.add_assoc, hO, hT15, ehy31, c14, c16, c17, c17M, eq_true c29]; rfl) ?_
     refine ee_ret ?_
     obtain rfl := Option.some.inj hr
     simp [Nat.add_assoc, FinQ, hO, hT15, ehy31, c14, c16, c17, c17M, eq_true c29, c17N]
    ·skip
     rw [if_neg] at hr
     rotate_left
     ·simp [Nat.add_assoc, c14, c16, c17, c17M, c29]
     obtain ⟨z32, hz32, hr⟩ := bs hr
     obtain rfl := Option.some.inj hz32
     refine ee_seq_reg rfl (by simp [Nat.add_assoc, c14, c16, c17, c17M, c29]; rfl) ?_
     refine ee_ret ?_
     obtain rfl := Option.some.inj hr
     simp [Nat.add_assoc, FinQ, c14, c16, c17, c17M, c29, c17N]
  ·skip
   refine ee_seq_reg rfl (by simp [Nat.add_assoc, hO, hT16, ehy15, c14, c16]; rfl) ?_
   rw [if_pos] at hr
   rotate_left
   ·simp [Nat.add_assoc, c14, c16]
   refine ee_seq_condT (by simp [Nat.add_assoc, bV, c14, c16]) ?_
   refine ee_assoc ?_
   refine ee_seq_reg rfl (by simp [Nat.add_assoc, c14, c16]; rfl) ?_
   refine ee_seq_ret ?_
   obtain rfl := Option.some.inj hr
   simp [Nat.add_assoc, FinQ, c14, c16]
 ·skip
  rw [if_pos c14] at hr
  refine ee_seq_condT (by simp [Nat.add_assoc, bV, c14]) ?_
  refine ee_assoc ?_
  refine ee_seq_reg rfl (by simp [Nat.add_assoc, c14]; rfl) ?_
  refine ee_seq_ret ?_
  obtain rfl := Option.some.inj hr
  simp [Nat.add_assoc, FinQ, c14]
end Go.Proofs.Ytmjbklblgpnagaa
