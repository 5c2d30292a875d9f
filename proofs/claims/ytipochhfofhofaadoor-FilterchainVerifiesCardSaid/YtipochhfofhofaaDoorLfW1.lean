import Derived.Test.YtipochhfofhofaaDoorLfK
import Derived.Test.YtipochhfofhofaaDoorCode
namespace Go.Proofs.YtipochhfofhofaaDoor
open Go.RowKit
open Go.Av
open Go.Lc
set_option maxRecDepth 100000
set_option linter.unusedSimpArgs false
set_option linter.unusedVariables false
set_option maxHeartbeats 4000000
def kp13 : Keep := fun i => ⟨[], [], []⟩
theorem w13 {T : Tab} (a0 : Tapi_FilterChain) (x : Bool) (hr : Lfilterchain_Sound a0 = some x) : ∃ kp fl n, execFn tt T G kp fl n Tryd.f13 (E13 a0) = some (R13 a0 x) := by
 simp only [E13, R13]
 refine fnE (kp := kp13) (w := false) body13 (by simp) ?_
 unfold c13
 rw [Tryd.ntmps13]
 unfold Lfilterchain_Sound at hr
 refine ee_seq_reg rfl (by simp []; rfl) ?_
 by_cases c1 : (a0.1.length : Int) = (a0.2.length : Int)
 ·skip
  have c1N := c1
  try simp at c1N
  refine ee_seq_reg rfl (by simp [eq_true c1, eq_true c1N]; rfl) ?_
  refine ee_ret ?_
  obtain rfl := Option.some.inj hr
  simp [FinQ, eq_true c1, eq_true c1N]
 ·skip
  have c1N := c1
  try simp at c1N
  first | have c1M : (_ = _) = True := eq_true c1N | have c1M := c1N
  refine ee_seq_reg rfl (by simp [c1, c1M]; rfl) ?_
  refine ee_ret ?_
  obtain rfl := Option.some.inj hr
  simp [FinQ, c1, c1M, c1N]
def kp58 : Keep := fun i => if i = 3 then ⟨[3, 6, 7, 8], [14], [(3, none, 14, 1)]⟩ else ⟨[], [], []⟩
theorem w58 {T : Tab} (a0 : (List (List Int))) (x : (List Int)) (hr : Lsha_row a0 = some x) : ∃ kp fl n, execFn tt T G kp fl n Tryd.f58 (E58 a0) = some (R58 a0 x) := by
 simp only [E58, R58]
 refine fnE (kp := kp58) (w := true) body58 (by simp) ?_
 unfold c58
 rw [Tryd.ntmps58]
 unfold Lsha_row at hr
 refine ee_seq_reg rfl (by simp []; rfl) ?_
 refine ee_seq_reg rfl (by simp []; rfl) ?_
 refine ee_assoc ?_
 refine ee_seq_reg rfl (by simp []; rfl) ?_
 refine ee_seq_block ?_
 refine ee_loop (kq := ⟨[3, 6, 7, 8], [14], [(3, none, 14, 1)]⟩) (H := fun (s : Int × (List Int)) => match s with | (p7, p8) => (⟨(und 3 ++ ([.one (.ms 14 0 0 (p8.length) 1)] ++ (und 2 ++ ([.one (.slice .no (List.map eS_I_u8 a0)), .one (.v (.int .i64 (a0.length : Int))), .one (.v (.int .i64 p7))] ++ (und 8)))) : List PV), ([(14, ⟨0, 1, intsR .u8 p8, false, true⟩)] : Boxes)⟩ : ASt)) (by kernel_rfl) hr (by simp [und, List.replicate, ]) ?_
 rintro ⟨p7, p8⟩ x18r hr18
 simp only [Lsha_row_s1] at hr18
 unfold b58_1
 simp only [und, List.replicate, List.cons_append, List.nil_append]
 refine ee_seq_reg rfl (by simp []; rfl) ?_
 by_cases c19 : p7 < (a0.length : Int)
 ·skip
  have c19N := c19
  try simp at c19N
  first | have c19M : (_ = _) = True := eq_true c19N | have c19M := c19N
  rw [if_pos] at hr18
  rotate_left
  ·simp [c19, c19M]
  refine ee_seq_condT (by simp [bV, c19, c19M]) ?_
  refine ee_seq_skip ?_
  refine ee_seq_block ?_
  obtain ⟨x20, hx20, hr18⟩ := bs hr18
  obtain ⟨hx20a, hx20b⟩ := idx_some hx20
  have hx20c := getE_of hx20b
  refine ee_seq_reg rfl (by simp [hx20a, hx20b, hx20c, c19, c19M]; rfl) ?_
  obtain ⟨_, u21, hr18⟩ := bs hr18
  have u21_0 := chk_some u21
  have n1_u21_0 : p8.length + x20.length ≤ 140737488355328 := by omega
  have n2_u21_0 : p8.length + x20.length ≤ 9223372036854775807 := by omega
  refine ee_reg rfl (by simp [n1_u21_0, n2_u21_0, c19, c19M]; rfl) ?_
  simp only [pq, reduceCtorEq]
  refine ee_reg rfl (by simp [c19, c19M]; rfl) ?_
  obtain rfl := Option.some.inj hr18
  simp only [pq, reduceCtorEq]
  simp [und, List.replicate, Nat.add_assoc, c19, c19M]
 ·skip
  have c19N := c19
  try simp at c19N
  first | have c19M : (_ = _) = True := eq_true c19N | have c19M := c19N
  rw [if_neg] at hr18
  rotate_left
  ·simp [c19, c19M]
  refine ee_seq_condF (by simp [bV, c19, c19M]) ?_
  refine ee_seq_exit ?_
  obtain ⟨r22, q22, rfl⟩ := ms hr18
  simp only [pq, reduceCtorEq]
  rintro rfl
  try simp only [pq, reduceCtorEq]
  unfold Lsha_row_k1 at q22
  refine ee_seq_reg rfl (by simp [c19, c19M]; rfl) ?_
  refine ee_ret ?_
  obtain rfl := Option.some.inj q22
  simp [FinQ, c19, c19M, c19N]
def kp59 : Keep := fun i => if i = 5 then ⟨[0, 4, 18], [15], []⟩ else ⟨[], [], []⟩
theorem w59 {T : Tab} (a0 : Int) (x : (List Int)) (hr : Lsha_Pad a0 = some x) : ∃ kp fl n, execFn tt T G kp fl n Tryd.f59 (E59 a0) = some (R59 a0 x) := by
 simp only [E59, R59]
 refine fnE (kp := kp59) (w := true) body59 (by simp) ?_
 unfold c59
 rw [Tryd.ntmps59]
 unfold Lsha_Pad at hr
 refine ee_seq_reg rfl (by simp []; rfl) ?_
 refine ee_seq_reg rfl (by simp []; rfl) ?_
 obtain ⟨_, u15, hr⟩ := bs hr
 obtain ⟨u15_0, u15_1, u15_2⟩ := chk_some u15
 have mf16 : (IntKind.u64.wrap (1 + ((IntKind.u64.wrap (64 - ((IntKind.u64.wrap (a0 + 9)).tmod 64))).tmod 64))).toNat ≤ (IntKind.u64.wrap (9 + ((IntKind.u64.wrap (64 - ((IntKind.u64.wrap (a0 + 9)).tmod 64))).tmod 64))).toNat := by omega
 have mf17 : (IntKind.u64.wrap (9 + ((IntKind.u64.wrap (64 - ((IntKind.u64.wrap (a0 + 9)).tmod 64))).tmod 64))).toNat ≤ 140737488355328 := by omega
 have mf18 : (IntKind.u64.wrap (9 + ((IntKind.u64.wrap (64 - ((IntKind.u64.wrap (a0 + 9)).tmod 64))).tmod 64))).toNat ≤ 9223372036854775807 := by omega
 have mf19 : 0 ≤ IntKind.u64.wrap (9 + ((IntKind.u64.wrap (64 - ((IntKind.u64.wrap (a0 + 9)).tmod 64))).tmod 64)) := by omega
 refine ee_seq_reg rfl (by simp [u15_0, u15_1, u15_2, mf16, mf17, mf18, mf19]; rfl) ?_
 obtain ⟨_, u20, hr⟩ := bs hr
 have u20_0 := chk_some u20
 have su20_0 : 0 < IntKind.u64.wrap (1 + ((IntKind.u64.wrap (64 - ((IntKind.u64.wrap (a0 + 9)).tmod 64))).tmod 64)) := by have h := u20_0; rw [List.length_replicate] at h; omega
 refine ee_seq_reg rfl (by simp [u20_0, su20_0]; rfl) ?_
 refine ee_assoc ?_
 refine ee_seq_reg rfl (by simp []; rfl) ?_
 refine ee_seq_block ?_
 refine ee_loop (kq := ⟨[0, 4, 18], [15], []⟩) (H := fun (s : Int × (List Int)) => match s with | (p9, p10) => (⟨([.one (.v (.int .u64 a0))] ++ (und 3 ++ ([.one (.ms 15 0 0 (p10.length) 1)] ++ (und 13 ++ ([.one (.v (.int .i64 p9))] ++ (und 14))))) : List PV), ([(15, ⟨0, 1, intsR .u8 p10, false, true⟩)] : Boxes)⟩ : ASt)) (by kernel_rfl) hr (by simp [und, List.replicate, ]) ?_
 rintro ⟨p9, p10⟩ x26r hr26
 simp only [Lsha_Pad_s1] at hr26
 unfold b59_1
 simp only [und, List.replicate, List.cons_append, List.nil_append]
 refine ee_seq_reg rfl (by simp []; rfl) ?_
 by_cases c27 : p9 < 8
 ·skip
  rw [if_pos] at hr26
  rotate_left
  ·simp [c27]
  refine ee_seq_condT (by simp [bV, c27]) ?_
  refine ee_seq_skip ?_
  refine ee_seq_block ?_
  refine ee_seq_reg rfl (by simp [c27]; rfl) ?_
  obtain ⟨_, u28, hr26⟩ := bs hr26
  have u28_0 := chk_some u28
  obtain ⟨_, u29, hr26⟩ := bs hr26
  have u29_0 := chk_some u29
  have n1_u29_0 : p10.length + 1 ≤ 140737488355328 := by omega
  have n2_u29_0 : p10.length + 1 ≤ 9223372036854775807 := by omega
  refine ee_reg rfl (by simp [u28_0, n1_u29_0, n2_u29_0, c27]; rfl) ?_
  simp only [pq, reduceCtorEq]
  refine ee_reg rfl (by simp [c27]; rfl) ?_
  obtain rfl := Option.some.inj hr26
  simp only [pq, reduceCtorEq]
  simp [und, List.replicate, Nat.add_assoc, c27]
 ·skip
  rw [if_neg] at hr26
  rotate_left
  ·simp [c27]
  refine ee_seq_condF (by simp [bV, c27]) ?_
  refine ee_seq_exit ?_
  obtain ⟨r30, q30, rfl⟩ := ms hr26
  simp only [pq, reduceCtorEq]
  rintro rfl
  try simp only [pq, reduceCtorEq]
  unfold Lsha_Pad_k1 at q30
  refine ee_seq_reg rfl (by simp [c27]; rfl) ?_
  refine ee_ret ?_
  obtain rfl := Option.some.inj q30
  simp [FinQ, c27]
def kp70 : Keep := fun i => ⟨[], [], []⟩
theorem w70 {T : Tab} (a0 : Int) (a1 : Int) (x : Int) (hr : Lmath_bits_RotateLeft32 a0 a1 = some x) : ∃ kp fl n, execFn tt T G kp fl n Tryd.f70 (E70 (a0, a1)) = some (R70 (a0, a1) x) := by
 simp only [E70, R70]
 refine fnE (kp := kp70) (w := false) body70 (by simp) ?_
 unfold c70
 rw [Tryd.ntmps70]
 unfold Lmath_bits_RotateLeft32 at hr
 refine ee_seq_reg rfl (by simp []; rfl) ?_
 refine ee_seq_reg rfl (by simp []; rfl) ?_
 obtain ⟨_, u3, hr⟩ := bs hr
 have u3_0 := chk_some u3
 obtain ⟨_, u4, hr⟩ := bs hr
 have u4_0 := chk_some u4
 refine ee_seq_reg rfl (by simp [u3_0, u4_0]; rfl) ?_
 refine ee_ret ?_
 obtain rfl := Option.some.inj hr
 simp [FinQ, u3_0, u4_0]
def kp66 : Keep := fun i => ⟨[], [], []⟩
theorem w66 {T : Tab} (hO : T.own = fun _ => []) (hT70 : T 70 = some G70) (a0 : Int) (a1 : Int) (x : Int) (hr : Lsha_rotr a0 a1 = some x) : ∃ kp fl n, execFn tt T G kp fl n Tryd.f66 (E66 (a0, a1)) = some (R66 (a0, a1) x) := by
 simp only [E66, R66]
 refine fnE (kp := kp66) (w := false) body66 (by simp) ?_
 unfold c66
 rw [Tryd.ntmps66]
 unfold Lsha_rotr at hr
 refine ee_seq_reg rfl (by simp []; rfl) ?_
 obtain ⟨y2, hy2, hr⟩ := bs hr
 have ehy2 := G70_eq hy2
 simp only [E70, R70, nf, nfs] at ehy2
 refine ee_seq_reg rfl (by simp [hO, hT70, ehy2]; rfl) ?_
 refine ee_ret ?_
 obtain rfl := Option.some.inj hr
 simp [FinQ, hO, hT70, ehy2]
def kp65 : Keep := fun i => if i = 3 then ⟨[1, 2, 3, 9], [1, 2, 3], []⟩ else if i = 6 then ⟨[1, 2, 3, 4, 9, 12], [1, 2, 3], []⟩ else if i = 12 then ⟨[2, 3, 6], [2, 3], []⟩ else ⟨[], [], []⟩
theorem w65 {T : Tab} (hO : T.own = fun _ => []) (hT66 : T 66 = some G66) (a0 : (Arr 64)) (x : (Arr 64)) (hr : Lsha_schedule a0 = some x) : ∃ kp fl n, execFn tt T G kp fl n Tryd.f65 (E65 a0) = some (R65 a0 x) := by
 simp only [E65, R65]
 refine fnE (kp := kp65) (w := false) body65 (by simp) ?_
 unfold c65
 rw [Tryd.ntmps65]
 unfold Lsha_schedule at hr
 refine ee_seq_reg rfl (by simp []; rfl) ?_
 refine ee_seq_reg rfl (by simp []; rfl) ?_
 refine ee_assoc ?_
 refine ee_seq_reg rfl (by simp []; rfl) ?_
 refine ee_seq_block ?_
 refine ee_loop (kq := ⟨[1, 2, 3, 9], [1, 2, 3], []⟩) (H := fun (s : Int × (Arr 64)) => match s with | (p20, p21) => (⟨(und 1 ++ ([.ptr 1 0 0 0 64, .ptr 2 0 0 0 64, .ptr 3 0 0 0 64] ++ (und 5 ++ ([.one (.v (.int .i64 p20))] ++ (und 75)))) : List PV), ([(1, ⟨0, 64, [arC .u8 a0], false, false⟩), (2, ⟨0, 64, [arC .u32 (zA 64)], false, false⟩), (3, ⟨0, 64, [arC .u32 p21], false, false⟩)] : Boxes)⟩ : ASt)) (by kernel_rfl) hr (by simp [und, List.replicate, ]) ?_
 rintro ⟨p20, p21⟩ x106r hr106
 simp only [Lsha_schedule_s1] at hr106
 unfold b65_1
 simp only [und, List.replicate, List.cons_append, List.nil_append]
 refine ee_seq_reg rfl (by simp []; rfl) ?_
 by_cases c107 : p20 < 16
 ·skip
  rw [if_pos] at hr106
  rotate_left
  ·simp [c107]
  refine ee_seq_condT (by simp [bV, c107]) ?_
  refine ee_seq_skip ?_
  refine ee_seq_block ?_
  refine ee_seq_reg rfl (by simp [c107]; rfl) ?_
  refine ee_seq_reg rfl (by simp [c107]; rfl) ?_
  refine ee_block ?_
  refine ee_loop (kq := ⟨[1, 2, 3, 4, 9, 12], [1, 2, 3], []⟩) (H := fun (s : Int × (Arr 64)) => match s with | (p77, p78) => (⟨(und 1 ++ ([.ptr 1 0 0 0 64, .ptr 2 0 0 0 64, .ptr 3 0 0 0 64, .one (.v (.int .i64 p20))] ++ (und 4 ++ ([.one (.v (.int .i64 p20))] ++ (und 2 ++ ([.one (.v (.int .i64 p77))] ++ (und 72)))))) : List PV), ([(1, ⟨0, 64, [arC .u8 a0], false, false⟩), (2, ⟨0, 64, [arC .u32 (zA 64)], false, false⟩), (3, ⟨0, 64, [arC .u32 p78], false, false⟩)] : Boxes)⟩ : ASt)) (by kernel_rfl) hr106 (by simp [und, List.replicate, c107]) ?_
  rintro ⟨p77, p78⟩ x118r hr118
  simp only [Lsha_schedule_s3] at hr118
  unfold b65_2
  simp only [und, List.replicate, List.cons_append, List.nil_append]
  refine ee_seq_reg rfl (by simp [c107]; rfl) ?_
  by_cases c119 : p77 < 4
  ·skip
   rw [if_pos] at hr118
   rotate_left
   ·simp [c107, c119]
   refine ee_seq_condT (by simp [bV, c107, c119]) ?_
   refine ee_seq_skip ?_
   refine ee_seq_block ?_
   refine ee_seq_reg rfl (by simp [c107, c119]; rfl) ?_
   obtain ⟨j120, hj120, hr118⟩ := bs hr118
   obtain ⟨j120a, j120b, j120c⟩ := inA_some hj120
   have j120d : j120 ≤ 63 := by omega
   have ar121 := arC_get (k := .u32) (p78) (i := j120) j120c
   have as122 := arC_sub (k := .u32) (p78) (i := j120) j120c
   obtain ⟨j123, hj123, hr118⟩ := bs hr118
   obtain ⟨j123a, j123b, j123c⟩ := inA_some hj123
   have j123d : j123 ≤ 63 := by omega
   have ar124 := arC_get (k := .u8) (a0) (i := j123) j123c
   have as125 := arC_sub (k := .u8) (a0) (i := j123) j123c
   obtain ⟨j120a, j120b, j120c⟩ := inA_some hj120
   have j120d : j120 ≤ 63 := by omega
   have ap126 := arC_put (k := .u32) (p78) (i := j120) j120c (bits .or .u32 (IntKind.u32.wrap ((p78.at j120) * 256)) (IntKind.u32.wrap (a0.at j123)))
   refine ee_draw rfl (by simp [j120a, j120b, j120c, j120d, ar121, as122, j123a, j123b, j123c, j123d, ar124, as125, ap126, c107, c119]; first | exact ⟨rfl, rfl⟩ | rfl) (by kernel_rfl) ?_
   simp only [pq, reduceCtorEq]
   refine ee_reg rfl (by simp [c107, c119]; rfl) ?_
   obtain rfl := Option.some.inj hr118
   simp only [pq, reduceCtorEq]
   simp [und, List.replicate, Nat.add_assoc, c107, c119]
  ·skip
   rw [if_neg] at hr118
   rotate_left
   ·simp [c107, c119]
   refine ee_seq_condF (by simp [bV, c107, c119]) ?_
   refine ee_seq_exit ?_
   obtain ⟨r127, q127, rfl⟩ := ms hr118
   simp only [pq, reduceCtorEq]
   rintro rfl
   try simp only [pq, reduceCtorEq]
   unfold Lsha_schedule_k3 at q127
   refine ee_reg rfl (by simp [c107, c119]; rfl) ?_
   obtain rfl := Option.some.inj q127
   simp only [pq, reduceCtorEq]
   simp [und, List.replicate, Nat.add_assoc, c107, c119]
 ·skip
  rw [if_neg] at hr106
  rotate_left
  ·simp [c107]
  refine ee_seq_condF (by simp [bV, c107]) ?_
  refine ee_seq_exit ?_
  obtain ⟨r128, q128, rfl⟩ := ms hr106
  simp only [pq, reduceCtorEq]
  rintro rfl
  try simp only [pq, reduceCtorEq]
  unfold Lsha_schedule_k1 at q128
  refine ee_assoc ?_
  refine ee_seq_reg rfl (by simp [c107]; rfl) ?_
  refine ee_seq_block ?_
  refine ee_loop (kq := ⟨[2, 3, 6], [2, 3], []⟩) (H := fun (s : Int × (Arr 64)) => match s with | (p51, p52) => (⟨(und 2 ++ ([.ptr 2 0 0 0 64, .ptr 3 0 0 0 64] ++ (und 2 ++ ([.one (.v (.int .i64 p51))] ++ (und 78)))) : List PV), ([(2, ⟨0, 64, [arC .u32 (zA 64)], false, false⟩), (3, ⟨0, 64, [arC .u32 p52], false, false⟩)] : Boxes)⟩ : ASt)) (by kernel_rfl) q128 (by simp [und, List.replicate, c107]) ?_
  rintro ⟨p51, p52⟩ x158r hr158
  simp only [Lsha_schedule_s2] at hr158
  unfold b65_3
  simp only [und, List.replicate, List.cons_append, List.nil_append]
  refine ee_assoc ?_
  refine ee_seq_reg rfl (by simp [c107]; rfl) ?_
  by_cases c159 : p51 < 64
  ·skip
   rw [if_pos] at hr158
   rotate_left
   ·simp [c107, c159]
   refine ee_seq_condT (by simp [bV, c107, c159]) ?_
   refine ee_seq_skip ?_
   refine ee_seq_block ?_
   obtain ⟨j160, hj160, hr158⟩ := bs hr158
   obtain ⟨j160a, j160b, j160c⟩ := inA_some hj160
   have j160d : j160 ≤ 63 := by omega
   have ar161 := arC_get (k := .u32) (p52) (i := j160) j160c
   have as162 := arC_sub (k := .u32) (p52) (i := j160) j160c
   obtain ⟨y163, hy163, hr158⟩ := bs hr158
   have ehy163 := G66_eq hy163
   simp only [E66, R66, nf, nfs] at ehy163
   obtain ⟨j160a, j160b, j160c⟩ := inA_some hj160
   have j160d : j160 ≤ 63 := by omega
   have ar164 := arC_get (k := .u32) (p52) (i := j160) j160c
   have as165 := arC_sub (k := .u32) (p52) (i := j160) j160c
   obtain ⟨y166, hy166, hr158⟩ := bs hr158
   have ehy166 := G66_eq hy166
   simp only [E66, R66, nf, nfs] at ehy166
   obtain ⟨j160a, j160b, j160c⟩ := inA_some hj160
   have j160d : j160 ≤ 63 := by omega
   have ar167 := arC_get (k := .u32) (p52) (i := j160) j160c
   have as168 := arC_sub (k := .u32) (p52) (i := j160) j160c
   refine ee_seq_draw rfl (by simp [j160a, j160b, j160c, j160d, ar161, as162, hO, hT66, ehy163, ar164, as165, ehy166, ar167, as168, c107, c159]; first | exact ⟨rfl, rfl⟩ | rfl) (by kernel_rfl) ?_
   obtain ⟨j169, hj169, hr158⟩ := bs hr158
   obtain ⟨j169a, j169b, j169c⟩ := inA_some hj169
   have j169d : j169 ≤ 63 := by omega
   have ar170 := arC_get (k := .u32) (p52) (i := j169) j169c
   have as171 := arC_sub (k := .u32) (p52) (i := j169) j169c
   obtain ⟨y172, hy172, hr158⟩ := bs hr158
   have ehy172 := G66_eq hy172
   simp only [E66, R66, nf, nfs] at ehy172
   obtain ⟨j169a, j169b, j169c⟩ := inA_some hj169
   have j169d : j169 ≤ 63 := by omega
   have ar173 := arC_get (k := .u32) (p52) (i := j169) j169c
   have as174 := arC_sub (k := .u32) (p52) (i := j169) j169c
   obtain ⟨y175, hy175, hr158⟩ := bs hr158
   have ehy175 := G66_eq hy175
   simp only [E66, R66, nf, nfs] at ehy175
   obtain ⟨j169a, j169b, j169c⟩ := inA_some hj169
   have j169d : j169 ≤ 63 := by omega
   have ar176 := arC_get (k := .u32) (p52) (i := j169) j169c
   have as177 := arC_sub (k := .u32) (p52) (i := j169) j169c
   refine ee_seq_draw rfl (by simp [j169a, j169b, j169c, j169d, ar170, as171, hO, hT66, ehy172, ar173, as174, ehy175, ar176, as177, c107, c159]; first | exact ⟨rfl, rfl⟩ | rfl) (by kernel_rfl) ?_
   obtain ⟨j178, hj178, hr158⟩ := bs hr158
   obtain ⟨j178a, j178b, j178c⟩ := inA_some hj178
   have j178d : j178 ≤ 63 := by omega
   have ar179 := arC_get (k := .u32) (p52) (i := j178) j178c
   have as180 := arC_sub (k := .u32) (p52) (i := j178) j178c
   obtain ⟨j181, hj181, hr158⟩ := bs hr158
   obtain ⟨j181a, j181b, j181c⟩ := inA_some hj181
   have j181d : j181 ≤ 63 := by omega
   have ar182 := arC_get (k := .u32) (p52) (i := j181) j181c
   have as183 := arC_sub (k := .u32) (p52) (i := j181) j181c
   obtain ⟨j184, hj184, hr158⟩ := bs hr158
   obtain ⟨j184a, j184b, j184c⟩ := inA_some hj184
   have j184d : j184 ≤ 63 := by omega
   have ap185 := arC_put (k := .u32) (p52) (i := j184) j184c (IntKind.u32.wrap ((IntKind.u32.wrap ((IntKind.u32.wrap ((p52.at j178) + (bits .xor .u32 (bits .xor .u32 y163 y166) ((p52.at j160).fdiv 8)))) + (p52.at j181))) + (bits .xor .u32 (bits .xor .u32 y172 y175) ((p52.at j169).fdiv 1024))))
   refine ee_draw rfl (by simp [j178a, j178b, j178c, j178d, ar179, as180, j181a, j181b, j181c, j181d, ar182, as183, j184a, j184b, j184c, j184d, ap185, c107, c159]; first | exact ⟨rfl, rfl⟩ | rfl) (by kernel_rfl) ?_
   simp only [pq, reduceCtorEq]
   refine ee_reg rfl (by simp [c107, c159]; rfl) ?_
   obtain rfl := Option.some.inj hr158
   simp only [pq, reduceCtorEq]
   simp [und, List.replicate, Nat.add_assoc, c107, c159]
  ·skip
   rw [if_neg] at hr158
   rotate_left
   ·simp [c107, c159]
   refine ee_seq_condF (by simp [bV, c107, c159]) ?_
   refine ee_seq_exit ?_
   obtain ⟨r186, q186, rfl⟩ := ms hr158
   simp only [pq, reduceCtorEq]
   rintro rfl
   try simp only [pq, reduceCtorEq]
   unfold Lsha_schedule_k2 at q186
   refine ee_seq_reg rfl (by simp [c107, c159]; rfl) ?_
   refine ee_ret ?_
   obtain rfl := Option.some.inj q186
   simp [FinQ, c107, c159]
def kp60 : Keep := fun i => if i = 5 then ⟨[2, 4, 5, 6, 7, 8, 9, 10, 11, 12, 13, 35], [2, 4, 5], []⟩ else ⟨[], [], []⟩
theorem w60 {T : Tab} (hO : T.own = fun _ => []) (hT65 : T 65 = some G65) (hT66 : T 66 = some G66) (a0 : (Arr 8)) (a1 : (Arr 64)) (x : (Arr 8)) (hr : Lsha_Compress a0 a1 = some x) : ∃ kp fl n, execFn tt T G kp fl n Tryd.f60 (E60 (a0, a1)) = some (R60 (a0, a1) x) := by
 simp only [E60, R60]
 refine fnE (kp := kp60) (w := false) body60 (by simp) ?_
 unfold c60
 rw [Tryd.ntmps60]
 unfold Lsha_Compress at hr
 refine ee_seq_reg rfl (by simp []; rfl) ?_
 obtain ⟨y47, hy47, hr⟩ := bs hr
 have ehy47 := G65_eq hy47
 simp only [E65, R65, nf, nfs] at ehy47
 refine ee_seq_reg rfl (by simp [hO, hT65, ehy47]; rfl) ?_
 have ar48 := arC_get (k := .u32) (a0) (i := 0) (by decide)
 have as49 := arC_sub (k := .u32) (a0) (i := 0) (by decide)
 have ar50 := arC_get (k := .u32) (a0) (i := 1) (by decide)
 have as51 := arC_sub (k := .u32) (a0) (i := 1) (by decide)
 have ar52 := arC_get (k := .u32) (a0) (i := 2) (by decide)
 have as53 := arC_sub (k := .u32) (a0) (i := 2) (by decide)
 have ar54 := arC_get (k := .u32) (a0) (i := 3) (by decide)
 have as55 := arC_sub (k := .u32) (a0) (i := 3) (by decide)
 refine ee_seq_draw rfl (by simp [ar48, as49, ar50, as51, ar52, as53, ar54, as55]; first | exact ⟨rfl, rfl⟩ | rfl) (by kernel_rfl) ?_
 have ar56 := arC_get (k := .u32) (a0) (i := 4) (by decide)
 have as57 := arC_sub (k := .u32) (a0) (i := 4) (by decide)
 have ar58 := arC_get (k := .u32) (a0) (i := 5) (by decide)
 have as59 := arC_sub (k := .u32) (a0) (i := 5) (by decide)
 have ar60 := arC_get (k := .u32) (a0) (i := 6) (by decide)
 have as61 := arC_sub (k := .u32) (a0) (i := 6) (by decide)
 have ar62 := arC_get (k := .u32) (a0) (i := 7) (by decide)
 have as63 := arC_sub (k := .u32) (a0) (i := 7) (by decide)
 refine ee_seq_draw rfl (by simp [ar56, as57, ar58, as59, ar60, as61, ar62, as63]; first | exact ⟨rfl, rfl⟩ | rfl) (by kernel_rfl) ?_
 refine ee_assoc ?_
 refine ee_seq_reg rfl (by simp []; rfl) ?_
 refine ee_seq_block ?_
 refine ee_loop (kq := ⟨[2, 4, 5, 6, 7, 8, 9, 10, 11, 12, 13, 35], [2, 4, 5], []⟩) (H := fun (s : Int × Int × Int × Int × Int × Int × Int × Int × Int) => match s with | (p24, p25, p26, p27, p28, p29, p30, p31, p32) => (⟨(und 2 ++ ([.ptr 2 0 0 0 8] ++ (und 1 ++ ([.ptr 4 0 0 0 8, .ptr 5 0 0 0 64, .one (.v (.int .u32 p24)), .one (.v (.int .u32 p25)), .one (.v (.int .u32 p26)), .one (.v (.int .u32 p27)), .one (.v (.int .u32 p28)), .one (.v (.int .u32 p29)), .one (.v (.int .u32 p30)), .one (.v (.int .u32 p31))] ++ (und 21 ++ ([.one (.v (.int .i64 p32))] ++ (und 95)))))) : List PV), ([(2, ⟨0, 8, [arC .u32 a0], false, false⟩), (4, ⟨0, 8, [arC .u32 (zA 8)], false, false⟩), (5, ⟨0, 64, [arC .u32 y47], false, false⟩)] : Boxes)⟩ : ASt)) (by kernel_rfl) hr (by simp [und, List.replicate, ]) ?_
 rintro ⟨p24, p25, p26, p27, p28, p29, p30, p31, p32⟩ x78r hr78
 simp only [Lsha_Compress_s1] at hr78
 unfold b60_1
 simp only [und, List.replicate, List.cons_append, List.nil_append]
 refine ee_seq_reg rfl (by simp []; rfl) ?_
 by_cases c79 : p32 < 64
 ·skip
  rw [if_pos] at hr78
  rotate_left
  ·simp [c79]
  refine ee_seq_condT (by simp [bV, c79]) ?_
  refine ee_seq_skip ?_
  refine ee_seq_block ?_
  refine ee_seq_reg rfl (by simp [c79]; rfl) ?_
  obtain ⟨y80, hy80, hr78⟩ := bs hr78
  have ehy80 := G66_eq hy80
  simp only [E66, R66, nf, nfs] at ehy80
  obtain ⟨y81, hy81, hr78⟩ := bs hr78
  have ehy81 := G66_eq hy81
  simp only [E66, R66, nf, nfs] at ehy81
  obtain ⟨y82, hy82, hr78⟩ := bs hr78
  have ehy82 := G66_eq hy82
  simp only [E66, R66, nf, nfs] at ehy82
  obtain ⟨j83, hj83, hr78⟩ := bs hr78
  obtain ⟨j83a, j83b, j83c⟩ := inA_some hj83
  have j83d : j83 ≤ 63 := by omega
  have ar84 := arC_get (k := .u32) (shaK) (i := j83) j83c
  have as85 := arC_sub (k := .u32) (shaK) (i := j83) j83c
  obtain ⟨j83a, j83b, j83c⟩ := inA_some hj83
  have j83d : j83 ≤ 63 := by omega
  have ar86 := arC_get (k := .u32) (y47) (i := j83) j83c
  have as87 := arC_sub (k := .u32) (y47) (i := j83) j83c
  refine ee_seq_draw rfl (by simp [hO, hT66, ehy80, ehy81, ehy82, j83a, j83b, j83c, j83d, ar84, as85, ar86, as87, c79]; first | exact ⟨rfl, rfl⟩ | rfl) (by kernel_rfl) ?_
  obtain ⟨y88, hy88, hr78⟩ := bs hr78
  have ehy88 := G66_eq hy88
  simp only [E66, R66, nf, nfs] at ehy88
  obtain ⟨y89, hy89, hr78⟩ := bs hr78
  have ehy89 := G66_eq hy89
  simp only [E66, R66, nf, nfs] at ehy89
  obtain ⟨y90, hy90, hr78⟩ := bs hr78
  have ehy90 := G66_eq hy90
  simp only [E66, R66, nf, nfs] at ehy90
  refine ee_seq_reg rfl (by simp [hO, hT66, ehy88, ehy89, ehy90, c79]; rfl) ?_
  refine ee_reg rfl (by simp [c79]; rfl) ?_
  simp only [pq, reduceCtorEq]
  refine ee_reg rfl (by simp [c79]; rfl) ?_
  obtain rfl := Option.some.inj hr78
  simp only [pq, reduceCtorEq]
  simp [und, List.replicate, Nat.add_assoc, c79]
 ·skip
  rw [if_neg] at hr78
  rotate_left
  ·simp [c79]
  refine ee_seq_condF (by simp [bV, c79]) ?_
  refine ee_seq_exit ?_
  obtain ⟨r91, q91, rfl⟩ := ms hr78
  simp only [pq, reduceCtorEq]
  rintro rfl
  try simp only [pq, reduceCtorEq]
  unfold Lsha_Compress_k1 at q91
  have ar92 := arC_get (k := .u32) (a0) (i := 0) (by decide)
  have as93 := arC_sub (k := .u32) (a0) (i := 0) (by decide)
  have ar94 := arC_get (k := .u32) (a0) (i := 1) (by decide)
  have as95 := arC_sub (k := .u32) (a0) (i := 1) (by decide)
  have ar96 := arC_get (k := .u32) (a0) (i := 2) (by decide)
  have as97 := arC_sub (k := .u32) (a0) (i := 2) (by decide)
  have ar98 := arC_get (k := .u32) (a0) (i := 3) (by decide)
  have as99 := arC_sub (k := .u32) (a0) (i := 3) (by decide)
  have ar100 := arC_get (k := .u32) (a0) (i := 4) (by decide)
  have as101 := arC_sub (k := .u32) (a0) (i := 4) (by decide)
  have ar102 := arC_get (k := .u32) (a0) (i := 5) (by decide)
  have as103 := arC_sub (k := .u32) (a0) (i := 5) (by decide)
  have ar104 := arC_get (k := .u32) (a0) (i := 6) (by decide)
  have as105 := arC_sub (k := .u32) (a0) (i := 6) (by decide)
  have ar106 := arC_get (k := .u32) (a0) (i := 7) (by decide)
  have as107 := arC_sub (k := .u32) (a0) (i := 7) (by decide)
  have ap108 := arC_put (k := .u32) (zA 8) (i := 0) (by decide) (IntKind.u32.wrap ((a0.at 0) + p24))
  have ap109 := arC_put (k := .u32) ((zA 8).put 0 (IntKind.u32.wrap ((a0.at 0) + p24))) (i := 1) (by decide) (IntKind.u32.wrap ((a0.at 1) + p25))
  have ap110 := arC_put (k := .u32) (((zA 8).put 0 (IntKind.u32.wrap ((a0.at 0) + p24))).put 1 (IntKind.u32.wrap ((a0.at 1) + p25))) (i := 2) (by decide) (IntKind.u32.wrap ((a0.at 2) + p26))
  have ap111 := arC_put (k := .u32) ((((zA 8).put 0 (IntKind.u32.wrap ((a0.at 0) + p24))).put 1 (IntKind.u32.wrap ((a0.at 1) + p25))).put 2 (IntKind.u32.wrap ((a0.at 2) + p26))) (i := 3) (by decide) (IntKind.u32.wrap ((a0.at 3) + p27))
  have ap112 := arC_put (k := .u32) (((((zA 8).put 0 (IntKind.u32.wrap ((a0.at 0) + p24))).put 1 (IntKind.u32.wrap ((a0.at 1) + p25))).put 2 (IntKind.u32.wrap ((a0.at 2) + p26))).put 3 (IntKind.u32.wrap ((a0.at 3) + p27))) (i := 4) (by decide) (IntKind.u32.wrap ((a0.at 4) + p28))
  have ap113 := arC_put (k := .u32) ((((((zA 8).put 0 (IntKind.u32.wrap ((a0.at 0) + p24))).put 1 (IntKind.u32.wrap ((a0.at 1) + p25))).put 2 (IntKind.u32.wrap ((a0.at 2) + p26))).put 3 (IntKind.u32.wrap ((a0.at 3) + p27))).put 4 (IntKind.u32.wrap ((a0.at 4) + p28))) (i := 5) (by decide) (IntKind.u32.wrap ((a0.at 5) + p29))
  have ap114 := arC_put (k := .u32) (((((((zA 8).put 0 (IntKind.u32.wrap ((a0.at 0) + p24))).put 1 (IntKind.u32.wrap ((a0.at 1) + p25))).put 2 (IntKind.u32.wrap ((a0.at 2) + p26))).put 3 (IntKind.u32.wrap ((a0.at 3) + p27))).put 4 (IntKind.u32.wrap ((a0.at 4) + p28))).put 5 (IntKind.u32.wrap ((a0.at 5) + p29))) (i := 6) (by decide) (IntKind.u32.wrap ((a0.at 6) + p30))
  have ap115 := arC_put (k := .u32) ((((((((zA 8).put 0 (IntKind.u32.wrap ((a0.at 0) + p24))).put 1 (IntKind.u32.wrap ((a0.at 1) + p25))).put 2 (IntKind.u32.wrap ((a0.at 2) + p26))).put 3 (IntKind.u32.wrap ((a0.at 3) + p27))).put 4 (IntKind.u32.wrap ((a0.at 4) + p28))).put 5 (IntKind.u32.wrap ((a0.at 5) + p29))).put 6 (IntKind.u32.wrap ((a0.at 6) + p30))) (i := 7) (by decide) (IntKind.u32.wrap ((a0.at 7) + p31))
  refine ee_seq_reg rfl (by simp [ar92, as93, ar94, as95, ar96, as97, ar98, as99, ar100, as101, ar102, as103, ar104, as105, ar106, as107, ap108, ap109, ap110, ap111, ap112, ap113, ap114, ap115, c79]; rfl) ?_
  refine ee_ret ?_
  obtain rfl := Option.some.inj q91
  simp [FinQ, ar92, as93, ar94, as95, ar96, as97, ar98, as99, ar100, as101, ar102, as103, ar104, as105, ar106, as107, ap108, ap109, ap110, ap111, ap112, ap113, ap114, ap115, c79]
def kp49 : Keep := fun i => if i = 4 then ⟨[2, 3, 4, 18, 19], [2, 4, 14], []⟩ else if i = 10 then ⟨[2, 4, 6, 31], [2, 4, 6], []⟩ else ⟨[], [], []⟩
theorem w49 {T : Tab} (hO : T.own = fun _ => []) (hT58 : T 58 = some G58) (hT59 : T 59 = some G59) (hT60 : T 60 = some G60) (a0 : (List Int)) (x : (Arr 32)) (hr : Lsha_Sum a0 = some x) : ∃ kp fl n, execFn tt T G kp fl n Tryd.f49 (E49 a0) = some (R49 a0 x) := by
 simp only [E49, R49]
 refine fnE (kp := kp49) (w := false) body49 (by simp) ?_
 unfold c49
 rw [Tryd.ntmps49]
 unfold Lsha_Sum at hr
 refine ee_seq_reg rfl (by simp [-Int.natCast_tdiv_eq_ediv, Nat.add_assoc, ]; rfl) ?_
 obtain ⟨y34, hy34, hr⟩ := bs hr
 have ehy34 := G59_eq hy34
 simp only [E59, R59, nf, nfs] at ehy34
 obtain ⟨y35, hy35, hr⟩ := bs hr
 have ehy35 := G58_eq hy35
 simp only [E58, R58, nf, nfs] at ehy35
 refine ee_seq_reg rfl (by simp [-Int.natCast_tdiv_eq_ediv, Nat.add_assoc, hO, hT59, ehy34, List.range, List.range.loop, hT58, ehy35]; rfl) ?_
 refine ee_seq_reg rfl (by simp [-Int.natCast_tdiv_eq_ediv, Nat.add_assoc, ]; rfl) ?_
 refine ee_assoc ?_
 refine ee_seq_reg rfl (by simp [-Int.natCast_tdiv_eq_ediv, Nat.add_assoc, ]; rfl) ?_
 refine ee_seq_block ?_
 refine ee_loop (kq := ⟨[2, 3, 4, 18, 19], [2, 4, 14], []⟩) (H := fun (s : Int × (Arr 8)) => match s with | (p11, p12) => (⟨(und 2 ++ ([.ptr 2 0 0 0 32, .one (.ms 14 0 0 (y35.length) 1), .ptr 4 0 0 0 8] ++ (und 13 ++ ([.one (.v (.int .i64 (IntKind.i64.wrap (((y35.length : Int)).tdiv 64)))), .one (.v (.int .i64 p11))] ++ (und 28)))) : List PV), ([(2, ⟨0, 32, [arC .u8 (zA 32)], false, false⟩), (4, ⟨0, 8, [arC .u32 p12], false, false⟩), (14, ⟨0, 1, intsR .u8 y35, false, true⟩)] : Boxes)⟩ : ASt)) (by kernel_rfl) hr (by simp [-Int.natCast_tdiv_eq_ediv, Nat.add_assoc, und, List.replicate, ]) ?_
 rintro ⟨p11, p12⟩ x44r hr44
 simp only [Lsha_Sum_s1] at hr44
 unfold b49_1
 simp only [und, List.replicate, List.cons_append, List.nil_append]
 refine ee_seq_reg rfl (by simp [-Int.natCast_tdiv_eq_ediv, Nat.add_assoc, ]; rfl) ?_
 by_cases c45 : p11 < IntKind.i64.wrap (((y35.length : Int)).tdiv 64)
 ·skip
  have c45N := c45
  try simp at c45N
  first | have c45M : (_ = _) = True := eq_true c45N | have c45M := c45N
  rw [if_pos] at hr44
  rotate_left
  ·simp [-Int.natCast_tdiv_eq_ediv, Nat.add_assoc, c45, c45M]
  refine ee_seq_condT (by simp [-Int.natCast_tdiv_eq_ediv, Nat.add_assoc, bV, c45, c45M]) ?_
  refine ee_seq_skip ?_
  refine ee_seq_block ?_
  refine ee_seq_reg rfl (by simp [-Int.natCast_tdiv_eq_ediv, Nat.add_assoc, c45, c45M]; rfl) ?_
  obtain ⟨_, u46, hr44⟩ := bs hr44
  obtain ⟨u46_0, u46_1⟩ := chk_some u46
  have sf47 : (IntKind.i64.wrap (64 * p11)).toNat ≤ y35.length := by omega
  obtain ⟨_, u48, hr44⟩ := bs hr44
  have u48_0 := chk_some u48
  have fp49 := flat_part (k := .u8) (l := y35) (o := (IntKind.i64.wrap (64 * p11)).toNat) (n := 64) (by omega)
  have fp49l : (IntKind.i64.wrap (64 * p11)).toNat + 64 ≤ y35.length := by omega
  obtain ⟨y50, hy50, hr44⟩ := bs hr44
  have ehy50 := G60_eq hy50
  simp only [E60, R60, nf, nfs] at ehy50
  refine ee_draw rfl (by simp [-Int.natCast_tdiv_eq_ediv, Nat.add_assoc, u46_0, u46_1, sf47, u48_0, fp49, fp49l, hO, hT60, ehy50, c45, c45M]; first | exact ⟨rfl, rfl⟩ | rfl) (by kernel_rfl) ?_
  simp only [pq, reduceCtorEq]
  refine ee_reg rfl (by simp [-Int.natCast_tdiv_eq_ediv, Nat.add_assoc, c45, c45M]; rfl) ?_
  obtain rfl := Option.some.inj hr44
  simp only [pq, reduceCtorEq]
  simp [-Int.natCast_tdiv_eq_ediv, Nat.add_assoc, und, List.replicate, Nat.add_assoc, c45, c45M]
 ·skip
  have c45N := c45
  try simp at c45N
  first | have c45M : (_ = _) = True := eq_true c45N | have c45M := c45N
  rw [if_neg] at hr44
  rotate_left
  ·simp [-Int.natCast_tdiv_eq_ediv, Nat.add_assoc, c45, c45M]
  refine ee_seq_condF (by simp [-Int.natCast_tdiv_eq_ediv, Nat.add_assoc, bV, c45, c45M]) ?_
  refine ee_seq_exit ?_
  obtain ⟨r51, q51, rfl⟩ := ms hr44
  simp only [pq, reduceCtorEq]
  rintro rfl
  try simp only [pq, reduceCtorEq]
  unfold Lsha_Sum_k1 at q51
  refine ee_seq_reg rfl (by simp [-Int.natCast_tdiv_eq_ediv, Nat.add_assoc, c45, c45M]; rfl) ?_
  refine ee_assoc ?_
  refine ee_seq_reg rfl (by simp [-Int.natCast_tdiv_eq_ediv, Nat.add_assoc, c45, c45M]; rfl) ?_
  refine ee_seq_block ?_
  refine ee_loop (kq := ⟨[2, 4, 6, 31], [2, 4, 6], []⟩) (H := fun (s : Int × (Arr 32)) => match s with | (p23, p24) => (⟨(und 2 ++ ([.ptr 2 0 0 0 32] ++ (und 1 ++ ([.ptr 4 0 0 0 8] ++ (und 1 ++ ([.ptr 6 0 0 0 32] ++ (und 24 ++ ([.one (.v (.int .i64 p23))] ++ (und 16)))))))) : List PV), ([(2, ⟨0, 32, [arC .u8 (zA 32)], false, false⟩), (4, ⟨0, 8, [arC .u32 p12], false, false⟩), (6, ⟨0, 32, [arC .u8 p24], false, false⟩)] : Boxes)⟩ : ASt)) (by kernel_rfl) q51 (by simp [-Int.natCast_tdiv_eq_ediv, Nat.add_assoc, und, List.replicate, c45, c45M]) ?_
  rintro ⟨p23, p24⟩ x61r hr61
  simp only [Lsha_Sum_s2] at hr61
  unfold b49_2
  simp only [und, List.replicate, List.cons_append, List.nil_append]
  refine ee_seq_reg rfl (by simp [-Int.natCast_tdiv_eq_ediv, Nat.add_assoc, c45, c45M]; rfl) ?_
  by_cases c62 : p23 < 32
  ·skip
   rw [if_pos] at hr61
   rotate_left
   ·simp [-Int.natCast_tdiv_eq_ediv, Nat.add_assoc, c45, c45M, c62]
   refine ee_seq_condT (by simp [-Int.natCast_tdiv_eq_ediv, Nat.add_assoc, bV, c45, c45M, c62]) ?_
   refine ee_seq_skip ?_
   refine ee_seq_block ?_
   refine ee_seq_reg rfl (by simp [-Int.natCast_tdiv_eq_ediv, Nat.add_assoc, c45, c45M, c62]; rfl) ?_
   obtain ⟨j63, hj63, hr61⟩ := bs hr61
   obtain ⟨j63a, j63b, j63c⟩ := inA_some hj63
   have j63d : j63 ≤ 7 := by omega
   have ar64 := arC_get (k := .u32) (p12) (i := j63) j63c
   have as65 := arC_sub (k := .u32) (p12) (i := j63) j63c
   obtain ⟨_, u66, hr61⟩ := bs hr61
   have u66_0 := chk_some u66
   obtain ⟨j67, hj67, hr61⟩ := bs hr61
   obtain ⟨j67a, j67b, j67c⟩ := inA_some hj67
   have j67d : j67 ≤ 31 := by omega
   have ap68 := arC_put (k := .u8) (p24) (i := j67) j67c (IntKind.u8.wrap ((p12.at j63).fdiv (2 ^ (min (IntKind.i64.wrap (24 - (IntKind.i64.wrap (((p23).tmod 4) * 8)))).toNat 32))))
   refine ee_reg rfl (by simp [-Int.natCast_tdiv_eq_ediv, Nat.add_assoc, j63a, j63b, j63c, j63d, ar64, as65, u66_0, j67a, j67b, j67c, j67d, ap68, c45, c45M, c62]; rfl) ?_
   simp only [pq, reduceCtorEq]
   refine ee_reg rfl (by simp [-Int.natCast_tdiv_eq_ediv, Nat.add_assoc, c45, c45M, c62]; rfl) ?_
   obtain rfl := Option.some.inj hr61
   simp only [pq, reduceCtorEq]
   simp [-Int.natCast_tdiv_eq_ediv, Nat.add_assoc, und, List.replicate, Nat.add_assoc, c45, c45M, c62]
  ·skip
   rw [if_neg] at hr61
   rotate_left
   ·simp [-Int.natCast_tdiv_eq_ediv, Nat.add_assoc, c45, c45M, c62]
   refine ee_seq_condF (by simp [-Int.natCast_tdiv_eq_ediv, Nat.add_assoc, bV, c45, c45M, c62]) ?_
   refine ee_seq_exit ?_
   obtain ⟨r69, q69, rfl⟩ := ms hr61
   simp only [pq, reduceCtorEq]
   rintro rfl
   try simp only [pq, reduceCtorEq]
   unfold Lsha_Sum_k2 at q69
   refine ee_seq_reg rfl (by simp [-Int.natCast_tdiv_eq_ediv, Nat.add_assoc, c45, c45M, c62]; rfl) ?_
   refine ee_ret ?_
   obtain rfl := Option.some.inj q69
   simp [-Int.natCast_tdiv_eq_ediv, Nat.add_assoc, FinQ, c45, c45M, c62, c45N]
def kp41 : Keep := fun i => ⟨[], [], []⟩
theorem w41 {T : Tab} (hO : T.own = fun _ => []) (hT49 : T 49 = some G49) (a0 : (List Int)) (x : (Arr 32)) (hr : Lsha_Double a0 = some x) : ∃ kp fl n, execFn tt T G kp fl n Tryd.f41 (E41 a0) = some (R41 a0 x) := by
 simp only [E41, R41]
 refine fnE (kp := kp41) (w := false) body41 (by simp) ?_
 unfold c41
 rw [Tryd.ntmps41]
 unfold Lsha_Double at hr
 refine ee_seq_reg rfl (by simp []; rfl) ?_
 obtain ⟨y3, hy3, hr⟩ := bs hr
 have ehy3 := G49_eq hy3
 simp only [E49, R49, nf, nfs] at ehy3
 refine ee_seq_reg rfl (by simp [hO, hT49, ehy3]; rfl) ?_
 obtain ⟨y4, hy4, hr⟩ := bs hr
 have ehy4 := G49_eq hy4
 simp only [E49, R49, nf, nfs] at ehy4
 refine ee_seq_reg rfl (by simp [hO, hT49, ehy4]; rfl) ?_
 refine ee_ret ?_
 obtain rfl := Option.some.inj hr
 simp [FinQ, hO, hT49, ehy4]
def kp42 : Keep := fun i => if i = 3 then ⟨[0, 3, 9, 10, 11], [], []⟩ else if i = 11 then ⟨[6, 25, 26, 27], [24], []⟩ else ⟨[], [], []⟩
theorem w42 {T : Tab} (hO : T.own = fun _ => []) (hN50 : T 50 = none) (hZ50 : T 1000050 = some G50) (a0 : (List (List Int))) (x : (List Int)) (hr : Lslices_Concat_of__byte_byte a0 = some x) : ∃ kp fl n, execFn tt T G kp fl n Tryd.f42 (E42 a0) = some (R42 a0 x) := by
 simp only [E42, R42]
 refine fnE (kp := kp42) (w := true) body42 (by simp) ?_
 unfold c42
 rw [Tryd.ntmps42]
 unfold Lslices_Concat_of__byte_byte at hr
 refine ee_seq_reg rfl (by simp []; rfl) ?_
 refine ee_seq_reg rfl (by simp []; rfl) ?_
 refine ee_assoc ?_
 refine ee_seq_reg rfl (by simp []; rfl) ?_
 refine ee_seq_block ?_
 refine ee_loop (kq := ⟨[0, 3, 9, 10, 11], [], []⟩) (H := fun (s : Int × Int) => match s with | (p5, p6) => (⟨([.one (.slice .no (List.map eS_I_u8 a0))] ++ (und 2 ++ ([.one (.v (.int .i64 p5))] ++ (und 5 ++ ([.one (.slice .no (List.map eS_I_u8 a0)), .one (.v (.int .i64 (a0.length : Int))), .one (.v (.int .i64 p6))] ++ (und 24))))) : List PV), ([] : Boxes)⟩ : ASt)) (by kernel_rfl) hr (by simp [und, List.replicate, ]) ?_
 rintro ⟨p5, p6⟩ x28r hr28
 simp only [Lslices_Concat_of__byte_byte_s1] at hr28
 unfold b42_1
 simp only [und, List.replicate, List.cons_append, List.nil_append]
 refine ee_seq_reg rfl (by simp []; rfl) ?_
 by_cases c29 : p6 < (a0.length : Int)
 ·skip
  have c29N := c29
  try simp at c29N
  first | have c29M : (_ = _) = True := eq_true c29N | have c29M := c29N
  rw [if_pos] at hr28
  rotate_left
  ·simp [c29, c29M]
  refine ee_seq_condT (by simp [bV, c29, c29M]) ?_
  refine ee_seq_skip ?_
  refine ee_seq_block ?_
  obtain ⟨x30, hx30, hr28⟩ := bs hr28
  obtain ⟨hx30a, hx30b⟩ := idx_some hx30
  have hx30c := getE_of hx30b
  refine ee_seq_reg rfl (by simp [hx30a, hx30b, hx30c, c29, c29M]; rfl) ?_
  refine ee_seq_reg rfl (by simp [c29, c29M]; rfl) ?_
  refine ee_seq_reg rfl (by simp [c29, c29M]; rfl) ?_
  by_cases c32 : IntKind.i64.wrap (p5 + (x30.length : Int)) < 0
  ·skip
   have c32N := c32
   try simp at c32N
   first | have c32M : (_ = _) = True := eq_true c32N | have c32M := c32N
   rw [if_pos] at hr28
   rotate_left
   ·simp [c29, c29M, c32, c32M]
   refine ee_condT (by simp [bV, c29, c29M, c32, c32M]) ?_
   simp at hr28
  ·skip
   have c32N := c32
   try simp at c32N
   first | have c32M : (_ = _) = True := eq_true c32N | have c32M := c32N
   rw [if_neg] at hr28
   rotate_left
   ·simp [c29, c29M, c32, c32M]
   refine ee_condF (by simp [bV, c29, c29M, c32, c32M]) ?_
   refine ee_skip ?_
   simp only [pq, reduceCtorEq]
   unfold Lslices_Concat_of__byte_byte_k3 at hr28
   refine ee_reg rfl (by simp [c29, c29M, c32, c32M]; rfl) ?_
   obtain rfl := Option.some.inj hr28
   simp only [pq, reduceCtorEq]
   simp [und, List.replicate, Nat.add_assoc, c29, c29M, c32, c32M]
 ·skip
  have c29N := c29
  try simp at c29N
  first | have c29M : (_ = _) = True := eq_true c29N | have c29M := c29N
  rw [if_neg] at hr28
  rotate_left
  ·simp [c29, c29M]
  refine ee_seq_condF (by simp [bV, c29, c29M]) ?_
  refine ee_seq_exit ?_
  obtain ⟨r33, q33, rfl⟩ := ms hr28
  simp only [pq, reduceCtorEq]
  rintro rfl
  try simp only [pq, reduceCtorEq]
  unfold Lslices_Concat_of__byte_byte_k1 at q33
  obtain ⟨_, u34, q33⟩ := bs q33
  obtain ⟨u34_0, u34_1⟩ := chk_some u34
  have eg35 := G50_eq (n := p5) ⟨u34_0, u34_1⟩
  refine ee_seq_reg rfl (by simp [hO, hN50, hZ50, eg35, c29, c29M]; rfl) ?_
  refine ee_assoc ?_
  refine ee_seq_reg rfl (by simp [c29, c29M]; rfl) ?_
  refine ee_seq_block ?_
  refine ee_loop (kq := ⟨[6, 25, 26, 27], [24], []⟩) (H := fun (s : Int × (List Int)) => match s with | (p15, p16) => (⟨(und 6 ++ ([.one (.ms 24 0 0 (p16.length) 1)] ++ (und 18 ++ ([.one (.slice .no (List.map eS_I_u8 a0)), .one (.v (.int .i64 (a0.length : Int))), .one (.v (.int .i64 p15))] ++ (und 8)))) : List PV), ([(24, ⟨0, 1, intsR .u8 p16, false, true⟩)] : Boxes)⟩ : ASt)) (by kernel_rfl) q33 (by simp [und, List.replicate, c29, c29M]) ?_
  rintro ⟨p15, p16⟩ x41r hr41
  simp only [Lslices_Concat_of__byte_byte_s2] at hr41
  unfold b42_2
  simp only [und, List.replicate, List.cons_append, List.nil_append]
  refine ee_seq_reg rfl (by simp [c29, c29M]; rfl) ?_
  by_cases c42 : p15 < (a0.length : Int)
  ·skip
   have c42N := c42
   try simp at c42N
   first | have c42M : (_ = _) = True := eq_true c42N | have c42M := c42N
   rw [if_pos] at hr41
   rotate_left
   ·simp [c29, c29M, c42, c42M]
   refine ee_seq_condT (by simp [bV, c29, c29M, c42, c42M]) ?_
   refine ee_seq_skip ?_
   refine ee_seq_block ?_
   obtain ⟨x43, hx43, hr41⟩ := bs hr41
   obtain ⟨hx43a, hx43b⟩ := idx_some hx43
   have hx43c := getE_of hx43b
   refine ee_seq_reg rfl (by simp [hx43a, hx43b, hx43c, c29, c29M, c42, c42M]; rfl) ?_
   obtain ⟨_, u44, hr41⟩ := bs hr41
   have u44_0 := chk_some u44
   have n1_u44_0 : p16.length + x43.length ≤ 140737488355328 := by omega
   have n2_u44_0 : p16.length + x43.length ≤ 9223372036854775807 := by omega
   refine ee_reg rfl (by simp [n1_u44_0, n2_u44_0, c29, c29M, c42, c42M]; rfl) ?_
   simp only [pq, reduceCtorEq]
   refine ee_reg rfl (by simp [c29, c29M, c42, c42M]; rfl) ?_
   obtain rfl := Option.some.inj hr41
   simp only [pq, reduceCtorEq]
   simp [und, List.replicate, Nat.add_assoc, c29, c29M, c42, c42M]
  ·skip
   have c42N := c42
   try simp at c42N
   first | have c42M : (_ = _) = True := eq_true c42N | have c42M := c42N
   rw [if_neg] at hr41
   rotate_left
   ·simp [c29, c29M, c42, c42M]
   refine ee_seq_condF (by simp [bV, c29, c29M, c42, c42M]) ?_
   refine ee_seq_exit ?_
   obtain ⟨r45, q45, rfl⟩ := ms hr41
   simp only [pq, reduceCtorEq]
   rintro rfl
   try simp only [pq, reduceCtorEq]
   unfold Lslices_Concat_of__byte_byte_k2 at q45
   refine ee_seq_reg rfl (by simp [c29, c29M, c42, c42M]; rfl) ?_
   refine ee_ret ?_
   obtain rfl := Option.some.inj q45
   simp [FinQ, c29, c29M, c42, c42M, c29N, c42N]
def kp31 : Keep := fun i => ⟨[], [], []⟩
theorem w31 {T : Tab} (hO : T.own = fun _ => []) (hT41 : T 41 = some G41) (hT42 : T 42 = some G42) (a0 : (Arr 32)) (a1 : (Arr 32)) (x : (Arr 32)) (hr : Lfilter_Header a0 a1 = some x) : ∃ kp fl n, execFn tt T G kp fl n Tryd.f31 (E31 (a0, a1)) = some (R31 (a0, a1) x) := by
 simp only [E31, R31]
 refine fnE (kp := kp31) (w := false) body31 (by simp) ?_
 unfold c31
 rw [Tryd.ntmps31]
 unfold Lfilter_Header at hr
 refine ee_seq_reg rfl (by simp []; rfl) ?_
 obtain ⟨y3, hy3, hr⟩ := bs hr
 have ehy3 := G42_eq hy3
 simp only [E42, R42, nf, nfs] at ehy3
 obtain ⟨y4, hy4, hr⟩ := bs hr
 have ehy4 := G41_eq hy4
 simp only [E41, R41, nf, nfs] at ehy4
 refine ee_seq_draw rfl (by simp [List.range, List.range.loop, hO, hT42, ehy3, hT41, ehy4]; first | exact ⟨rfl, rfl⟩ | rfl) (by kernel_rfl) ?_
 refine ee_ret ?_
 obtain rfl := Option.some.inj hr
 simp [FinQ, List.range, List.range.loop, hO, hT42, ehy3, hT41, ehy4]
end Go.Proofs.YtipochhfofhofaaDoor
