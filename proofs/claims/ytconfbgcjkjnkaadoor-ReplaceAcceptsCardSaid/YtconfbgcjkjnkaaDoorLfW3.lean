import Derived.Test.YtconfbgcjkjnkaaDoorLfK
import Derived.Test.YtconfbgcjkjnkaaDoorCode
namespace Go.Proofs.YtconfbgcjkjnkaaDoor
open Go.RowKit
open Go.Av
open Go.Lc
set_option maxRecDepth 100000
set_option linter.unusedSimpArgs false
set_option linter.unusedVariables false
set_option maxHeartbeats 4000000
def kp98 : Keep := fun i => ⟨[], [], []⟩
theorem w98 {T : Tab} (hT75 : T 75 = some G75) (hT95 : T 95 = some G95) (a0 : Tapi_Tx) (a1 : Bool) (x : (List Int) × Int) (hr : Ltx_Encode a0 a1 = some x) : ∃ kp fl n, execFn tt T G kp fl n Tryd.f98 (E98 (a0, a1)) = some (R98 (a0, a1) x) := by
 simp only [E98, R98]
 refine fnE (kp := kp98) (w := false) body98 ?_
 unfold c98
 rw [Tryd.ntmps98]
 unfold Ltx_Encode at hr
 refine ee_seq_reg rfl (by simp []; rfl) ?_
 refine ee_assoc ?_
 obtain ⟨y3, hy3, hr⟩ := bs hr
 have ehy3 := G75_eq hy3
 simp only [E75, R75, nf, nfs] at ehy3
 refine ee_seq_reg rfl (by simp [hT75, ehy3]; rfl) ?_
 by_cases c4 : y3 = true
 ·skip
  rw [if_neg (not_not_intro c4)] at hr
  refine ee_seq_condF (by simp [bV, c4]) ?_
  refine ee_seq_skip ?_
  obtain ⟨y5, hy5, hr⟩ := bs hr
  have ehy5 := G95_eq hy5
  simp only [E95, R95, nf, nfs] at ehy5
  refine ee_seq_reg rfl (by simp [hT95, ehy5, c4]; rfl) ?_
  refine ee_ret ?_
  obtain rfl := Option.some.inj hr
  simp [FinQ, hT95, ehy5, c4]
 ·skip
  rw [if_pos c4] at hr
  refine ee_seq_condT (by simp [bV, c4]) ?_
  refine ee_assoc ?_
  refine ee_seq_reg rfl (by simp [c4]; rfl) ?_
  refine ee_seq_ret ?_
  obtain rfl := Option.some.inj hr
  simp [FinQ, c4]
def kp122 : Keep := fun i => if i = 3 then ⟨[3, 6, 7, 8], [14], [(3, none, 14, 1)]⟩ else ⟨[], [], []⟩
theorem w122 {T : Tab} (a0 : (List (List Int))) (x : (List Int)) (hr : Lsha_row a0 = some x) : ∃ kp fl n, execFn tt T G kp fl n Tryd.f122 (E122 a0) = some (R122 a0 x) := by
 simp only [E122, R122]
 refine fnE (kp := kp122) (w := true) body122 ?_
 unfold c122
 rw [Tryd.ntmps122]
 unfold Lsha_row at hr
 refine ee_seq_reg rfl (by simp []; rfl) ?_
 refine ee_seq_reg rfl (by simp []; rfl) ?_
 refine ee_assoc ?_
 refine ee_seq_reg rfl (by simp []; rfl) ?_
 refine ee_seq_block ?_
 refine ee_loop (kq := ⟨[3, 6, 7, 8], [14], [(3, none, 14, 1)]⟩) (H := fun (s : Int × (List Int)) => match s with | (p7, p8) => (⟨(und 3 ++ ([.one (.ms 14 0 0 (p8.length) 1)] ++ (und 2 ++ ([.one (.slice .no (List.map eS_I_u8 a0)), .one (.v (.int .i64 (a0.length : Int))), .one (.v (.int .i64 p7))] ++ (und 8)))) : List PV), ([(14, ⟨0, 1, intsR .u8 p8, false, true⟩)] : Boxes)⟩ : ASt)) (by kernel_rfl) hr (by simp [und, List.replicate, ]) ?_
 rintro ⟨p7, p8⟩ x13r hr13
 simp only [Lsha_row_s1] at hr13
 unfold b122_1
 simp only [und, List.replicate, List.cons_append, List.nil_append]
 refine ee_seq_reg rfl (by simp []; rfl) ?_
 by_cases c14 : p7 < (a0.length : Int)
 ·skip
  have c14N := c14
  try simp at c14N
  first | have c14M : (_ = _) = True := eq_true c14N | have c14M := c14N
  rw [if_pos] at hr13
  rotate_left
  ·simp [c14, c14M]
  refine ee_seq_condT (by simp [bV, c14, c14M]) ?_
  refine ee_seq_skip ?_
  refine ee_seq_block ?_
  obtain ⟨x15, hx15, hr13⟩ := bs hr13
  obtain ⟨hx15a, hx15b⟩ := idx_some hx15
  have hx15c := getE_of hx15b
  refine ee_seq_reg rfl (by simp [hx15a, hx15b, hx15c, c14, c14M]; rfl) ?_
  obtain ⟨_, u16, hr13⟩ := bs hr13
  have u16_0 := chk_some u16
  have n1_u16_0 : p8.length + x15.length ≤ 140737488355328 := by omega
  have n2_u16_0 : p8.length + x15.length ≤ 9223372036854775807 := by omega
  refine ee_reg rfl (by simp [n1_u16_0, n2_u16_0, c14, c14M]; rfl) ?_
  simp only [pq, reduceCtorEq]
  refine ee_reg rfl (by simp [c14, c14M]; rfl) ?_
  obtain rfl := Option.some.inj hr13
  simp only [pq, reduceCtorEq]
  simp [und, List.replicate, Nat.add_assoc, c14, c14M]
 ·skip
  have c14N := c14
  try simp at c14N
  first | have c14M : (_ = _) = True := eq_true c14N | have c14M := c14N
  rw [if_neg] at hr13
  rotate_left
  ·simp [c14, c14M]
  refine ee_seq_condF (by simp [bV, c14, c14M]) ?_
  refine ee_seq_exit ?_
  obtain ⟨r17, q17, rfl⟩ := ms hr13
  simp only [pq, reduceCtorEq]
  rintro rfl
  try simp only [pq, reduceCtorEq]
  unfold Lsha_row_k1 at q17
  refine ee_seq_reg rfl (by simp [c14, c14M]; rfl) ?_
  refine ee_ret ?_
  obtain rfl := Option.some.inj q17
  simp [FinQ, c14, c14M]
def kp123 : Keep := fun i => if i = 5 then ⟨[0, 4, 18], [15], []⟩ else ⟨[], [], []⟩
theorem w123 {T : Tab} (a0 : Int) (x : (List Int)) (hr : Lsha_Pad a0 = some x) : ∃ kp fl n, execFn tt T G kp fl n Tryd.f123 (E123 a0) = some (R123 a0 x) := by
 simp only [E123, R123]
 refine fnE (kp := kp123) (w := true) body123 ?_
 unfold c123
 rw [Tryd.ntmps123]
 unfold Lsha_Pad at hr
 refine ee_seq_reg rfl (by simp []; rfl) ?_
 refine ee_seq_reg rfl (by simp []; rfl) ?_
 obtain ⟨_, u15, hr⟩ := bs hr
 obtain ⟨u15_0, u15_1, u15_2⟩ := chk_some u15
 have mf16 : (IntKind.u64.wrap (1 + ((IntKind.u64.wrap (64 - ((IntKind.u64.wrap (a0 + 9)).tmod 64))).tmod 64))).toNat ≤ (IntKind.u64.wrap (9 + ((IntKind.u64.wrap (64 - ((IntKind.u64.wrap (a0 + 9)).tmod 64))).tmod 64))).toNat := by omega
 have mf17 : (IntKind.u64.wrap (9 + ((IntKind.u64.wrap (64 - ((IntKind.u64.wrap (a0 + 9)).tmod 64))).tmod 64))).toNat ≤ 140737488355328 := by omega
 have mf18 : (IntKind.u64.wrap (9 + ((IntKind.u64.wrap (64 - ((IntKind.u64.wrap (a0 + 9)).tmod 64))).tmod 64))).toNat ≤ 9223372036854775807 := by omega
 have mf19 : 0 ≤ IntKind.u64.wrap (9 + ((IntKind.u64.wrap (64 - ((IntKind.u64.wrap (a0 + 9)).tmod 64))).tmod 64)) := by omega
 refine ee_seq_reg rfl (by simp [u15_0, u15_1, u15_2, mf16, mf17, mf18, mf19]; rfl) ?_
 obtain ⟨_, u20, hr⟩ := bs hr
 have u20_0 := chk_some u20
 have su20_0 : 0 < IntKind.u64.wrap (1 + ((IntKind.u64.wrap (64 - ((IntKind.u64.wrap (a0 + 9)).tmod 64))).tmod 64)) := by have h := u20_0; rw [List.length_replicate] at h; omega
 refine ee_seq_reg rfl (by simp [u20_0, su20_0]; rfl) ?_
 refine ee_assoc ?_
 refine ee_seq_reg rfl (by simp []; rfl) ?_
 refine ee_seq_block ?_
 refine ee_loop (kq := ⟨[0, 4, 18], [15], []⟩) (H := fun (s : Int × (List Int)) => match s with | (p9, p10) => (⟨([.one (.v (.int .u64 a0))] ++ (und 3 ++ ([.one (.ms 15 0 0 (p10.length) 1)] ++ (und 13 ++ ([.one (.v (.int .i64 p9))] ++ (und 14))))) : List PV), ([(15, ⟨0, 1, intsR .u8 p10, false, true⟩)] : Boxes)⟩ : ASt)) (by kernel_rfl) hr (by simp [und, List.replicate, ]) ?_
 rintro ⟨p9, p10⟩ x21r hr21
 simp only [Lsha_Pad_s1] at hr21
 unfold b123_1
 simp only [und, List.replicate, List.cons_append, List.nil_append]
 refine ee_seq_reg rfl (by simp []; rfl) ?_
 by_cases c22 : p9 < 8
 ·skip
  rw [if_pos] at hr21
  rotate_left
  ·simp [c22]
  refine ee_seq_condT (by simp [bV, c22]) ?_
  refine ee_seq_skip ?_
  refine ee_seq_block ?_
  refine ee_seq_reg rfl (by simp [c22]; rfl) ?_
  obtain ⟨_, u23, hr21⟩ := bs hr21
  have u23_0 := chk_some u23
  obtain ⟨_, u24, hr21⟩ := bs hr21
  have u24_0 := chk_some u24
  have n1_u24_0 : p10.length + 1 ≤ 140737488355328 := by omega
  have n2_u24_0 : p10.length + 1 ≤ 9223372036854775807 := by omega
  refine ee_reg rfl (by simp [u23_0, n1_u24_0, n2_u24_0, c22]; rfl) ?_
  simp only [pq, reduceCtorEq]
  refine ee_reg rfl (by simp [c22]; rfl) ?_
  obtain rfl := Option.some.inj hr21
  simp only [pq, reduceCtorEq]
  simp [und, List.replicate, Nat.add_assoc, c22]
 ·skip
  rw [if_neg] at hr21
  rotate_left
  ·simp [c22]
  refine ee_seq_condF (by simp [bV, c22]) ?_
  refine ee_seq_exit ?_
  obtain ⟨r25, q25, rfl⟩ := ms hr21
  simp only [pq, reduceCtorEq]
  rintro rfl
  try simp only [pq, reduceCtorEq]
  unfold Lsha_Pad_k1 at q25
  refine ee_seq_reg rfl (by simp [c22]; rfl) ?_
  refine ee_ret ?_
  obtain rfl := Option.some.inj q25
  simp [FinQ, c22]
def kp125 : Keep := fun i => ⟨[], [], []⟩
theorem w125 {T : Tab} (a0 : Int) (a1 : Int) (x : Int) (hr : Lmath_bits_RotateLeft32 a0 a1 = some x) : ∃ kp fl n, execFn tt T G kp fl n Tryd.f125 (E125 (a0, a1)) = some (R125 (a0, a1) x) := by
 simp only [E125, R125]
 refine fnE (kp := kp125) (w := false) body125 ?_
 unfold c125
 rw [Tryd.ntmps125]
 unfold Lmath_bits_RotateLeft32 at hr
 refine ee_seq_reg rfl (by simp []; rfl) ?_
 refine ee_seq_reg rfl (by simp []; rfl) ?_
 obtain ⟨_, u3, hr⟩ := bs hr
 have u3_0 := chk_some u3
 obtain ⟨_, u4, hr⟩ := bs hr
 have u4_0 := chk_some u4
 refine ee_seq_reg rfl (by simp [u3_0, u4_0]; rfl) ?_
 refine ee_ret ?_
 obtain rfl := Option.some.inj hr
 simp [FinQ, u3_0, u4_0]
def kp127 : Keep := fun i => ⟨[], [], []⟩
theorem w127 {T : Tab} (hT125 : T 125 = some G125) (a0 : Int) (a1 : Int) (x : Int) (hr : Lsha_rotr a0 a1 = some x) : ∃ kp fl n, execFn tt T G kp fl n Tryd.f127 (E127 (a0, a1)) = some (R127 (a0, a1) x) := by
 simp only [E127, R127]
 refine fnE (kp := kp127) (w := false) body127 ?_
 unfold c127
 rw [Tryd.ntmps127]
 unfold Lsha_rotr at hr
 refine ee_seq_reg rfl (by simp []; rfl) ?_
 obtain ⟨y2, hy2, hr⟩ := bs hr
 have ehy2 := G125_eq hy2
 simp only [E125, R125, nf, nfs] at ehy2
 refine ee_seq_reg rfl (by simp [hT125, ehy2]; rfl) ?_
 refine ee_ret ?_
 obtain rfl := Option.some.inj hr
 simp [FinQ, hT125, ehy2]
def kp126 : Keep := fun i => if i = 3 then ⟨[1, 2, 3, 9], [1, 2, 3], []⟩ else if i = 6 then ⟨[1, 2, 3, 4, 9, 12], [1, 2, 3], []⟩ else if i = 12 then ⟨[2, 3, 6], [2, 3], []⟩ else ⟨[], [], []⟩
theorem w126 {T : Tab} (hT127 : T 127 = some G127) (a0 : (Arr 64)) (x : (Arr 64)) (hr : Lsha_schedule a0 = some x) : ∃ kp fl n, execFn tt T G kp fl n Tryd.f126 (E126 a0) = some (R126 a0 x) := by
 simp only [E126, R126]
 refine fnE (kp := kp126) (w := false) body126 ?_
 unfold c126
 rw [Tryd.ntmps126]
 unfold Lsha_schedule at hr
 refine ee_seq_reg rfl (by simp []; rfl) ?_
 refine ee_seq_reg rfl (by simp []; rfl) ?_
 refine ee_assoc ?_
 refine ee_seq_reg rfl (by simp []; rfl) ?_
 refine ee_seq_block ?_
 refine ee_loop (kq := ⟨[1, 2, 3, 9], [1, 2, 3], []⟩) (H := fun (s : Int × (Arr 64)) => match s with | (p20, p21) => (⟨(und 1 ++ ([.ptr 1 0 0 0 64, .ptr 2 0 0 0 64, .ptr 3 0 0 0 64] ++ (und 5 ++ ([.one (.v (.int .i64 p20))] ++ (und 75)))) : List PV), ([(1, ⟨0, 64, [arC .u8 a0], false, false⟩), (2, ⟨0, 64, [arC .u32 (zA 64)], false, false⟩), (3, ⟨0, 64, [arC .u32 p21], false, false⟩)] : Boxes)⟩ : ASt)) (by kernel_rfl) hr (by simp [und, List.replicate, ]) ?_
 rintro ⟨p20, p21⟩ x83r hr83
 simp only [Lsha_schedule_s1] at hr83
 unfold b126_1
 simp only [und, List.replicate, List.cons_append, List.nil_append]
 refine ee_seq_reg rfl (by simp []; rfl) ?_
 by_cases c84 : p20 < 16
 ·skip
  rw [if_pos] at hr83
  rotate_left
  ·simp [c84]
  refine ee_seq_condT (by simp [bV, c84]) ?_
  refine ee_seq_skip ?_
  refine ee_seq_block ?_
  refine ee_seq_reg rfl (by simp [c84]; rfl) ?_
  refine ee_seq_reg rfl (by simp [c84]; rfl) ?_
  refine ee_block ?_
  refine ee_loop (kq := ⟨[1, 2, 3, 4, 9, 12], [1, 2, 3], []⟩) (H := fun (s : Int × (Arr 64)) => match s with | (p77, p78) => (⟨(und 1 ++ ([.ptr 1 0 0 0 64, .ptr 2 0 0 0 64, .ptr 3 0 0 0 64, .one (.v (.int .i64 p20))] ++ (und 4 ++ ([.one (.v (.int .i64 p20))] ++ (und 2 ++ ([.one (.v (.int .i64 p77))] ++ (und 72)))))) : List PV), ([(1, ⟨0, 64, [arC .u8 a0], false, false⟩), (2, ⟨0, 64, [arC .u32 (zA 64)], false, false⟩), (3, ⟨0, 64, [arC .u32 p78], false, false⟩)] : Boxes)⟩ : ASt)) (by kernel_rfl) hr83 (by simp [und, List.replicate, c84]) ?_
  rintro ⟨p77, p78⟩ x85r hr85
  simp only [Lsha_schedule_s3] at hr85
  unfold b126_2
  simp only [und, List.replicate, List.cons_append, List.nil_append]
  refine ee_seq_reg rfl (by simp [c84]; rfl) ?_
  by_cases c86 : p77 < 4
  ·skip
   rw [if_pos] at hr85
   rotate_left
   ·simp [c84, c86]
   refine ee_seq_condT (by simp [bV, c84, c86]) ?_
   refine ee_seq_skip ?_
   refine ee_seq_block ?_
   refine ee_seq_reg rfl (by simp [c84, c86]; rfl) ?_
   obtain ⟨j87, hj87, hr85⟩ := bs hr85
   obtain ⟨j87a, j87b, j87c⟩ := inA_some hj87
   have j87d : j87 ≤ 63 := by omega
   have ar88 := arC_get (k := .u32) (p78) (i := j87) j87c
   have as89 := arC_sub (k := .u32) (p78) (i := j87) j87c
   obtain ⟨j90, hj90, hr85⟩ := bs hr85
   obtain ⟨j90a, j90b, j90c⟩ := inA_some hj90
   have j90d : j90 ≤ 63 := by omega
   have ar91 := arC_get (k := .u8) (a0) (i := j90) j90c
   have as92 := arC_sub (k := .u8) (a0) (i := j90) j90c
   obtain ⟨j87a, j87b, j87c⟩ := inA_some hj87
   have j87d : j87 ≤ 63 := by omega
   have ap93 := arC_put (k := .u32) (p78) (i := j87) j87c (bits .or .u32 (IntKind.u32.wrap ((p78.at j87) * 256)) (IntKind.u32.wrap (a0.at j90)))
   refine ee_draw rfl (by simp [j87a, j87b, j87c, j87d, ar88, as89, j90a, j90b, j90c, j90d, ar91, as92, ap93, c84, c86]; first | exact ⟨rfl, rfl⟩ | rfl) (by kernel_rfl) ?_
   simp only [pq, reduceCtorEq]
   refine ee_reg rfl (by simp [c84, c86]; rfl) ?_
   obtain rfl := Option.some.inj hr85
   simp only [pq, reduceCtorEq]
   simp [und, List.replicate, Nat.add_assoc, c84, c86]
  ·skip
   rw [if_neg] at hr85
   rotate_left
   ·simp [c84, c86]
   refine ee_seq_condF (by simp [bV, c84, c86]) ?_
   refine ee_seq_exit ?_
   obtain ⟨r94, q94, rfl⟩ := ms hr85
   simp only [pq, reduceCtorEq]
   rintro rfl
   try simp only [pq, reduceCtorEq]
   unfold Lsha_schedule_k3 at q94
   refine ee_reg rfl (by simp [c84, c86]; rfl) ?_
   obtain rfl := Option.some.inj q94
   simp only [pq, reduceCtorEq]
   simp [und, List.replicate, Nat.add_assoc, c84, c86]
 ·skip
  rw [if_neg] at hr83
  rotate_left
  ·simp [c84]
  refine ee_seq_condF (by simp [bV, c84]) ?_
  refine ee_seq_exit ?_
  obtain ⟨r95, q95, rfl⟩ := ms hr83
  simp only [pq, reduceCtorEq]
  rintro rfl
  try simp only [pq, reduceCtorEq]
  unfold Lsha_schedule_k1 at q95
  refine ee_assoc ?_
  refine ee_seq_reg rfl (by simp [c84]; rfl) ?_
  refine ee_seq_block ?_
  refine ee_loop (kq := ⟨[2, 3, 6], [2, 3], []⟩) (H := fun (s : Int × (Arr 64)) => match s with | (p51, p52) => (⟨(und 2 ++ ([.ptr 2 0 0 0 64, .ptr 3 0 0 0 64] ++ (und 2 ++ ([.one (.v (.int .i64 p51))] ++ (und 78)))) : List PV), ([(2, ⟨0, 64, [arC .u32 (zA 64)], false, false⟩), (3, ⟨0, 64, [arC .u32 p52], false, false⟩)] : Boxes)⟩ : ASt)) (by kernel_rfl) q95 (by simp [und, List.replicate, c84]) ?_
  rintro ⟨p51, p52⟩ x96r hr96
  simp only [Lsha_schedule_s2] at hr96
  unfold b126_3
  simp only [und, List.replicate, List.cons_append, List.nil_append]
  refine ee_assoc ?_
  refine ee_seq_reg rfl (by simp [c84]; rfl) ?_
  by_cases c97 : p51 < 64
  ·skip
   rw [if_pos] at hr96
   rotate_left
   ·simp [c84, c97]
   refine ee_seq_condT (by simp [bV, c84, c97]) ?_
   refine ee_seq_skip ?_
   refine ee_seq_block ?_
   obtain ⟨j98, hj98, hr96⟩ := bs hr96
   obtain ⟨j98a, j98b, j98c⟩ := inA_some hj98
   have j98d : j98 ≤ 63 := by omega
   have ar99 := arC_get (k := .u32) (p52) (i := j98) j98c
   have as100 := arC_sub (k := .u32) (p52) (i := j98) j98c
   obtain ⟨y101, hy101, hr96⟩ := bs hr96
   have ehy101 := G127_eq hy101
   simp only [E127, R127, nf, nfs] at ehy101
   obtain ⟨j98a, j98b, j98c⟩ := inA_some hj98
   have j98d : j98 ≤ 63 := by omega
   have ar102 := arC_get (k := .u32) (p52) (i := j98) j98c
   have as103 := arC_sub (k := .u32) (p52) (i := j98) j98c
   obtain ⟨y104, hy104, hr96⟩ := bs hr96
   have ehy104 := G127_eq hy104
   simp only [E127, R127, nf, nfs] at ehy104
   obtain ⟨j98a, j98b, j98c⟩ := inA_some hj98
   have j98d : j98 ≤ 63 := by omega
   have ar105 := arC_get (k := .u32) (p52) (i := j98) j98c
   have as106 := arC_sub (k := .u32) (p52) (i := j98) j98c
   refine ee_seq_draw rfl (by simp [j98a, j98b, j98c, j98d, ar99, as100, hT127, ehy101, ar102, as103, ehy104, ar105, as106, c84, c97]; first | exact ⟨rfl, rfl⟩ | rfl) (by kernel_rfl) ?_
   obtain ⟨j107, hj107, hr96⟩ := bs hr96
   obtain ⟨j107a, j107b, j107c⟩ := inA_some hj107
   have j107d : j107 ≤ 63 := by omega
   have ar108 := arC_get (k := .u32) (p52) (i := j107) j107c
   have as109 := arC_sub (k := .u32) (p52) (i := j107) j107c
   obtain ⟨y110, hy110, hr96⟩ := bs hr96
   have ehy110 := G127_eq hy110
   simp only [E127, R127, nf, nfs] at ehy110
   obtain ⟨j107a, j107b, j107c⟩ := inA_some hj107
   have j107d : j107 ≤ 63 := by omega
   have ar111 := arC_get (k := .u32) (p52) (i := j107) j107c
   have as112 := arC_sub (k := .u32) (p52) (i := j107) j107c
   obtain ⟨y113, hy113, hr96⟩ := bs hr96
   have ehy113 := G127_eq hy113
   simp only [E127, R127, nf, nfs] at ehy113
   obtain ⟨j107a, j107b, j107c⟩ := inA_some hj107
   have j107d : j107 ≤ 63 := by omega
   have ar114 := arC_get (k := .u32) (p52) (i := j107) j107c
   have as115 := arC_sub (k := .u32) (p52) (i := j107) j107c
   refine ee_seq_draw rfl (by simp [j107a, j107b, j107c, j107d, ar108, as109, hT127, ehy110, ar111, as112, ehy113, ar114, as115, c84, c97]; first | exact ⟨rfl, rfl⟩ | rfl) (by kernel_rfl) ?_
   obtain ⟨j116, hj116, hr96⟩ := bs hr96
   obtain ⟨j116a, j116b, j116c⟩ := inA_some hj116
   have j116d : j116 ≤ 63 := by omega
   have ar117 := arC_get (k := .u32) (p52) (i := j116) j116c
   have as118 := arC_sub (k := .u32) (p52) (i := j116) j116c
   obtain ⟨j119, hj119, hr96⟩ := bs hr96
   obtain ⟨j119a, j119b, j119c⟩ := inA_some hj119
   have j119d : j119 ≤ 63 := by omega
   have ar120 := arC_get (k := .u32) (p52) (i := j119) j119c
   have as121 := arC_sub (k := .u32) (p52) (i := j119) j119c
   obtain ⟨j122, hj122, hr96⟩ := bs hr96
   obtain ⟨j122a, j122b, j122c⟩ := inA_some hj122
   have j122d : j122 ≤ 63 := by omega
   have ap123 := arC_put (k := .u32) (p52) (i := j122) j122c (IntKind.u32.wrap ((IntKind.u32.wrap ((IntKind.u32.wrap ((p52.at j116) + (bits .xor .u32 (bits .xor .u32 y101 y104) ((p52.at j98).fdiv 8)))) + (p52.at j119))) + (bits .xor .u32 (bits .xor .u32 y110 y113) ((p52.at j107).fdiv 1024))))
   refine ee_draw rfl (by simp [j116a, j116b, j116c, j116d, ar117, as118, j119a, j119b, j119c, j119d, ar120, as121, j122a, j122b, j122c, j122d, ap123, c84, c97]; first | exact ⟨rfl, rfl⟩ | rfl) (by kernel_rfl) ?_
   simp only [pq, reduceCtorEq]
   refine ee_reg rfl (by simp [c84, c97]; rfl) ?_
   obtain rfl := Option.some.inj hr96
   simp only [pq, reduceCtorEq]
   simp [und, List.replicate, Nat.add_assoc, c84, c97]
  ·skip
   rw [if_neg] at hr96
   rotate_left
   ·simp [c84, c97]
   refine ee_seq_condF (by simp [bV, c84, c97]) ?_
   refine ee_seq_exit ?_
   obtain ⟨r124, q124, rfl⟩ := ms hr96
   simp only [pq, reduceCtorEq]
   rintro rfl
   try simp only [pq, reduceCtorEq]
   unfold Lsha_schedule_k2 at q124
   refine ee_seq_reg rfl (by simp [c84, c97]; rfl) ?_
   refine ee_ret ?_
   obtain rfl := Option.some.inj q124
   simp [FinQ, c84, c97]
def kp124 : Keep := fun i => if i = 5 then ⟨[2, 4, 5, 6, 7, 8, 9, 10, 11, 12, 13, 35], [2, 4, 5], []⟩ else ⟨[], [], []⟩
theorem w124 {T : Tab} (hT126 : T 126 = some G126) (hT127 : T 127 = some G127) (a0 : (Arr 8)) (a1 : (Arr 64)) (x : (Arr 8)) (hr : Lsha_Compress a0 a1 = some x) : ∃ kp fl n, execFn tt T G kp fl n Tryd.f124 (E124 (a0, a1)) = some (R124 (a0, a1) x) := by
 simp only [E124, R124]
 refine fnE (kp := kp124) (w := false) body124 ?_
 unfold c124
 rw [Tryd.ntmps124]
 unfold Lsha_Compress at hr
 refine ee_seq_reg rfl (by simp []; rfl) ?_
 obtain ⟨y47, hy47, hr⟩ := bs hr
 have ehy47 := G126_eq hy47
 simp only [E126, R126, nf, nfs] at ehy47
 refine ee_seq_reg rfl (by simp [hT126, ehy47]; rfl) ?_
 have ar48 := arC_get (k := .u32) (a0) (i := 0) (by decide)
 have as49 := arC_sub (k := .u32) (a0) (i := 0) (by decide)
 have ar50 := arC_get (k := .u32) (a0) (i := 1) (by decide)
 have as51 := arC_sub (k := .u32) (a0) (i := 1) (by decide)
 have ar52 := arC_get (k := .u32) (a0) (i := 2) (by decide)
 have as53 := arC_sub (k := .u32) (a0) (i := 2) (by decide)
 have ar54 := arC_get (k := .u32) (a0) (i := 3) (by decide)
 have as55 := arC_sub (k := .u32) (a0) (i := 3) (by decide)
 refine ee_seq_draw rfl (by simp [ar48, as49, ar50, as51, ar52, as53, ar54, as55]; first | exact ⟨rfl, rfl⟩ | rfl) (by kernel_rfl) ?_
 have ar56 := arC_get (k := .u32) (a0) (i := 4) (by decide)
 have as57 := arC_sub (k := .u32) (a0) (i := 4) (by decide)
 have ar58 := arC_get (k := .u32) (a0) (i := 5) (by decide)
 have as59 := arC_sub (k := .u32) (a0) (i := 5) (by decide)
 have ar60 := arC_get (k := .u32) (a0) (i := 6) (by decide)
 have as61 := arC_sub (k := .u32) (a0) (i := 6) (by decide)
 have ar62 := arC_get (k := .u32) (a0) (i := 7) (by decide)
 have as63 := arC_sub (k := .u32) (a0) (i := 7) (by decide)
 refine ee_seq_draw rfl (by simp [ar56, as57, ar58, as59, ar60, as61, ar62, as63]; first | exact ⟨rfl, rfl⟩ | rfl) (by kernel_rfl) ?_
 refine ee_assoc ?_
 refine ee_seq_reg rfl (by simp []; rfl) ?_
 refine ee_seq_block ?_
 refine ee_loop (kq := ⟨[2, 4, 5, 6, 7, 8, 9, 10, 11, 12, 13, 35], [2, 4, 5], []⟩) (H := fun (s : Int × Int × Int × Int × Int × Int × Int × Int × Int) => match s with | (p24, p25, p26, p27, p28, p29, p30, p31, p32) => (⟨(und 2 ++ ([.ptr 2 0 0 0 8] ++ (und 1 ++ ([.ptr 4 0 0 0 8, .ptr 5 0 0 0 64, .one (.v (.int .u32 p24)), .one (.v (.int .u32 p25)), .one (.v (.int .u32 p26)), .one (.v (.int .u32 p27)), .one (.v (.int .u32 p28)), .one (.v (.int .u32 p29)), .one (.v (.int .u32 p30)), .one (.v (.int .u32 p31))] ++ (und 21 ++ ([.one (.v (.int .i64 p32))] ++ (und 95)))))) : List PV), ([(2, ⟨0, 8, [arC .u32 a0], false, false⟩), (4, ⟨0, 8, [arC .u32 (zA 8)], false, false⟩), (5, ⟨0, 64, [arC .u32 y47], false, false⟩)] : Boxes)⟩ : ASt)) (by kernel_rfl) hr (by simp [und, List.replicate, ]) ?_
 rintro ⟨p24, p25, p26, p27, p28, p29, p30, p31, p32⟩ x64r hr64
 simp only [Lsha_Compress_s1] at hr64
 unfold b124_1
 simp only [und, List.replicate, List.cons_append, List.nil_append]
 refine ee_seq_reg rfl (by simp []; rfl) ?_
 by_cases c65 : p32 < 64
 ·skip
  rw [if_pos] at hr64
  rotate_left
  ·simp [c65]
  refine ee_seq_condT (by simp [bV, c65]) ?_
  refine ee_seq_skip ?_
  refine ee_seq_block ?_
  refine ee_seq_reg rfl (by simp [c65]; rfl) ?_
  obtain ⟨y66, hy66, hr64⟩ := bs hr64
  have ehy66 := G127_eq hy66
  simp only [E127, R127, nf, nfs] at ehy66
  obtain ⟨y67, hy67, hr64⟩ := bs hr64
  have ehy67 := G127_eq hy67
  simp only [E127, R127, nf, nfs] at ehy67
  obtain ⟨y68, hy68, hr64⟩ := bs hr64
  have ehy68 := G127_eq hy68
  simp only [E127, R127, nf, nfs] at ehy68
  obtain ⟨j69, hj69, hr64⟩ := bs hr64
  obtain ⟨j69a, j69b, j69c⟩ := inA_some hj69
  have j69d : j69 ≤ 63 := by omega
  have ar70 := arC_get (k := .u32) (shaK) (i := j69) j69c
  have as71 := arC_sub (k := .u32) (shaK) (i := j69) j69c
  obtain ⟨j69a, j69b, j69c⟩ := inA_some hj69
  have j69d : j69 ≤ 63 := by omega
  have ar72 := arC_get (k := .u32) (y47) (i := j69) j69c
  have as73 := arC_sub (k := .u32) (y47) (i := j69) j69c
  refine ee_seq_draw rfl (by simp [hT127, ehy66, ehy67, ehy68, j69a, j69b, j69c, j69d, ar70, as71, ar72, as73, c65]; first | exact ⟨rfl, rfl⟩ | rfl) (by kernel_rfl) ?_
  obtain ⟨y74, hy74, hr64⟩ := bs hr64
  have ehy74 := G127_eq hy74
  simp only [E127, R127, nf, nfs] at ehy74
  obtain ⟨y75, hy75, hr64⟩ := bs hr64
  have ehy75 := G127_eq hy75
  simp only [E127, R127, nf, nfs] at ehy75
  obtain ⟨y76, hy76, hr64⟩ := bs hr64
  have ehy76 := G127_eq hy76
  simp only [E127, R127, nf, nfs] at ehy76
  refine ee_seq_reg rfl (by simp [hT127, ehy74, ehy75, ehy76, c65]; rfl) ?_
  refine ee_reg rfl (by simp [c65]; rfl) ?_
  simp only [pq, reduceCtorEq]
  refine ee_reg rfl (by simp [c65]; rfl) ?_
  obtain rfl := Option.some.inj hr64
  simp only [pq, reduceCtorEq]
  simp [und, List.replicate, Nat.add_assoc, c65]
 ·skip
  rw [if_neg] at hr64
  rotate_left
  ·simp [c65]
  refine ee_seq_condF (by simp [bV, c65]) ?_
  refine ee_seq_exit ?_
  obtain ⟨r77, q77, rfl⟩ := ms hr64
  simp only [pq, reduceCtorEq]
  rintro rfl
  try simp only [pq, reduceCtorEq]
  unfold Lsha_Compress_k1 at q77
  have ar78 := arC_get (k := .u32) (a0) (i := 0) (by decide)
  have as79 := arC_sub (k := .u32) (a0) (i := 0) (by decide)
  have ar80 := arC_get (k := .u32) (a0) (i := 1) (by decide)
  have as81 := arC_sub (k := .u32) (a0) (i := 1) (by decide)
  have ar82 := arC_get (k := .u32) (a0) (i := 2) (by decide)
  have as83 := arC_sub (k := .u32) (a0) (i := 2) (by decide)
  have ar84 := arC_get (k := .u32) (a0) (i := 3) (by decide)
  have as85 := arC_sub (k := .u32) (a0) (i := 3) (by decide)
  have ar86 := arC_get (k := .u32) (a0) (i := 4) (by decide)
  have as87 := arC_sub (k := .u32) (a0) (i := 4) (by decide)
  have ar88 := arC_get (k := .u32) (a0) (i := 5) (by decide)
  have as89 := arC_sub (k := .u32) (a0) (i := 5) (by decide)
  have ar90 := arC_get (k := .u32) (a0) (i := 6) (by decide)
  have as91 := arC_sub (k := .u32) (a0) (i := 6) (by decide)
  have ar92 := arC_get (k := .u32) (a0) (i := 7) (by decide)
  have as93 := arC_sub (k := .u32) (a0) (i := 7) (by decide)
  have ap94 := arC_put (k := .u32) (zA 8) (i := 0) (by decide) (IntKind.u32.wrap ((a0.at 0) + p24))
  have ap95 := arC_put (k := .u32) ((zA 8).put 0 (IntKind.u32.wrap ((a0.at 0) + p24))) (i := 1) (by decide) (IntKind.u32.wrap ((a0.at 1) + p25))
  have ap96 := arC_put (k := .u32) (((zA 8).put 0 (IntKind.u32.wrap ((a0.at 0) + p24))).put 1 (IntKind.u32.wrap ((a0.at 1) + p25))) (i := 2) (by decide) (IntKind.u32.wrap ((a0.at 2) + p26))
  have ap97 := arC_put (k := .u32) ((((zA 8).put 0 (IntKind.u32.wrap ((a0.at 0) + p24))).put 1 (IntKind.u32.wrap ((a0.at 1) + p25))).put 2 (IntKind.u32.wrap ((a0.at 2) + p26))) (i := 3) (by decide) (IntKind.u32.wrap ((a0.at 3) + p27))
  have ap98 := arC_put (k := .u32) (((((zA 8).put 0 (IntKind.u32.wrap ((a0.at 0) + p24))).put 1 (IntKind.u32.wrap ((a0.at 1) + p25))).put 2 (IntKind.u32.wrap ((a0.at 2) + p26))).put 3 (IntKind.u32.wrap ((a0.at 3) + p27))) (i := 4) (by decide) (IntKind.u32.wrap ((a0.at 4) + p28))
  have ap99 := arC_put (k := .u32) ((((((zA 8).put 0 (IntKind.u32.wrap ((a0.at 0) + p24))).put 1 (IntKind.u32.wrap ((a0.at 1) + p25))).put 2 (IntKind.u32.wrap ((a0.at 2) + p26))).put 3 (IntKind.u32.wrap ((a0.at 3) + p27))).put 4 (IntKind.u32.wrap ((a0.at 4) + p28))) (i := 5) (by decide) (IntKind.u32.wrap ((a0.at 5) + p29))
  have ap100 := arC_put (k := .u32) (((((((zA 8).put 0 (IntKind.u32.wrap ((a0.at 0) + p24))).put 1 (IntKind.u32.wrap ((a0.at 1) + p25))).put 2 (IntKind.u32.wrap ((a0.at 2) + p26))).put 3 (IntKind.u32.wrap ((a0.at 3) + p27))).put 4 (IntKind.u32.wrap ((a0.at 4) + p28))).put 5 (IntKind.u32.wrap ((a0.at 5) + p29))) (i := 6) (by decide) (IntKind.u32.wrap ((a0.at 6) + p30))
  have ap101 := arC_put (k := .u32) ((((((((zA 8).put 0 (IntKind.u32.wrap ((a0.at 0) + p24))).put 1 (IntKind.u32.wrap ((a0.at 1) + p25))).put 2 (IntKind.u32.wrap ((a0.at 2) + p26))).put 3 (IntKind.u32.wrap ((a0.at 3) + p27))).put 4 (IntKind.u32.wrap ((a0.at 4) + p28))).put 5 (IntKind.u32.wrap ((a0.at 5) + p29))).put 6 (IntKind.u32.wrap ((a0.at 6) + p30))) (i := 7) (by decide) (IntKind.u32.wrap ((a0.at 7) + p31))
  refine ee_seq_reg rfl (by simp [ar78, as79, ar80, as81, ar82, as83, ar84, as85, ar86, as87, ar88, as89, ar90, as91, ar92, as93, ap94, ap95, ap96, ap97, ap98, ap99, ap100, ap101, c65]; rfl) ?_
  refine ee_ret ?_
  obtain rfl := Option.some.inj q77
  simp [FinQ, ar78, as79, ar80, as81, ar82, as83, ar84, as85, ar86, as87, ar88, as89, ar90, as91, ar92, as93, ap94, ap95, ap96, ap97, ap98, ap99, ap100, ap101, c65]
def kp114 : Keep := fun i => if i = 4 then ⟨[2, 3, 4, 18, 19], [2, 4, 14], []⟩ else if i = 10 then ⟨[2, 4, 6, 31], [2, 4, 6], []⟩ else ⟨[], [], []⟩
theorem w114 {T : Tab} (hT122 : T 122 = some G122) (hT123 : T 123 = some G123) (hT124 : T 124 = some G124) (a0 : (List Int)) (x : (Arr 32)) (hr : Lsha_Sum a0 = some x) : ∃ kp fl n, execFn tt T G kp fl n Tryd.f114 (E114 a0) = some (R114 a0 x) := by
 simp only [E114, R114]
 refine fnE (kp := kp114) (w := false) body114 ?_
 unfold c114
 rw [Tryd.ntmps114]
 unfold Lsha_Sum at hr
 refine ee_seq_reg rfl (by simp []; rfl) ?_
 obtain ⟨y34, hy34, hr⟩ := bs hr
 have ehy34 := G123_eq hy34
 simp only [E123, R123, nf, nfs] at ehy34
 obtain ⟨y35, hy35, hr⟩ := bs hr
 have ehy35 := G122_eq hy35
 simp only [E122, R122, nf, nfs] at ehy35
 refine ee_seq_reg rfl (by simp [hT123, ehy34, List.range, List.range.loop, hT122, ehy35]; rfl) ?_
 refine ee_seq_reg rfl (by simp []; rfl) ?_
 refine ee_assoc ?_
 refine ee_seq_reg rfl (by simp []; rfl) ?_
 refine ee_seq_block ?_
 refine ee_loop (kq := ⟨[2, 3, 4, 18, 19], [2, 4, 14], []⟩) (H := fun (s : Int × (Arr 8)) => match s with | (p11, p12) => (⟨(und 2 ++ ([.ptr 2 0 0 0 32, .one (.ms 14 0 0 (y35.length) 1), .ptr 4 0 0 0 8] ++ (und 13 ++ ([.one (.v (.int .i64 (IntKind.i64.wrap (((y35.length : Int)).tdiv 64)))), .one (.v (.int .i64 p11))] ++ (und 28)))) : List PV), ([(2, ⟨0, 32, [arC .u8 (zA 32)], false, false⟩), (4, ⟨0, 8, [arC .u32 p12], false, false⟩), (14, ⟨0, 1, intsR .u8 y35, false, true⟩)] : Boxes)⟩ : ASt)) (by kernel_rfl) hr (by simp [und, List.replicate, ]) ?_
 rintro ⟨p11, p12⟩ x36r hr36
 simp only [Lsha_Sum_s1] at hr36
 unfold b114_1
 simp only [und, List.replicate, List.cons_append, List.nil_append]
 refine ee_seq_reg rfl (by simp []; rfl) ?_
 by_cases c37 : p11 < IntKind.i64.wrap (((y35.length : Int)).tdiv 64)
 ·skip
  have c37N := c37
  try simp at c37N
  first | have c37M : (_ = _) = True := eq_true c37N | have c37M := c37N
  rw [if_pos] at hr36
  rotate_left
  ·simp [c37, c37M]
  refine ee_seq_condT (by simp [bV, c37, c37M]) ?_
  refine ee_seq_skip ?_
  refine ee_seq_block ?_
  refine ee_seq_reg rfl (by simp [c37, c37M]; rfl) ?_
  obtain ⟨_, u38, hr36⟩ := bs hr36
  obtain ⟨u38_0, u38_1⟩ := chk_some u38
  have sf39 : (IntKind.i64.wrap (64 * p11)).toNat ≤ y35.length := by omega
  obtain ⟨_, u40, hr36⟩ := bs hr36
  have u40_0 := chk_some u40
  have fp41 := flat_part (k := .u8) (l := y35) (o := (IntKind.i64.wrap (64 * p11)).toNat) (n := 64) (by omega)
  have fp41l : (IntKind.i64.wrap (64 * p11)).toNat + 64 ≤ y35.length := by omega
  obtain ⟨y42, hy42, hr36⟩ := bs hr36
  have ehy42 := G124_eq hy42
  simp only [E124, R124, nf, nfs] at ehy42
  refine ee_draw rfl (by simp [u38_0, u38_1, sf39, u40_0, fp41, fp41l, hT124, ehy42, c37, c37M]; first | exact ⟨rfl, rfl⟩ | rfl) (by kernel_rfl) ?_
  simp only [pq, reduceCtorEq]
  refine ee_reg rfl (by simp [c37, c37M]; rfl) ?_
  obtain rfl := Option.some.inj hr36
  simp only [pq, reduceCtorEq]
  simp [und, List.replicate, Nat.add_assoc, c37, c37M]
 ·skip
  have c37N := c37
  try simp at c37N
  first | have c37M : (_ = _) = True := eq_true c37N | have c37M := c37N
  rw [if_neg] at hr36
  rotate_left
  ·simp [c37, c37M]
  refine ee_seq_condF (by simp [bV, c37, c37M]) ?_
  refine ee_seq_exit ?_
  obtain ⟨r43, q43, rfl⟩ := ms hr36
  simp only [pq, reduceCtorEq]
  rintro rfl
  try simp only [pq, reduceCtorEq]
  unfold Lsha_Sum_k1 at q43
  refine ee_seq_reg rfl (by simp [c37, c37M]; rfl) ?_
  refine ee_assoc ?_
  refine ee_seq_reg rfl (by simp [c37, c37M]; rfl) ?_
  refine ee_seq_block ?_
  refine ee_loop (kq := ⟨[2, 4, 6, 31], [2, 4, 6], []⟩) (H := fun (s : Int × (Arr 32)) => match s with | (p23, p24) => (⟨(und 2 ++ ([.ptr 2 0 0 0 32] ++ (und 1 ++ ([.ptr 4 0 0 0 8] ++ (und 1 ++ ([.ptr 6 0 0 0 32] ++ (und 24 ++ ([.one (.v (.int .i64 p23))] ++ (und 16)))))))) : List PV), ([(2, ⟨0, 32, [arC .u8 (zA 32)], false, false⟩), (4, ⟨0, 8, [arC .u32 p12], false, false⟩), (6, ⟨0, 32, [arC .u8 p24], false, false⟩)] : Boxes)⟩ : ASt)) (by kernel_rfl) q43 (by simp [und, List.replicate, c37, c37M]) ?_
  rintro ⟨p23, p24⟩ x44r hr44
  simp only [Lsha_Sum_s2] at hr44
  unfold b114_2
  simp only [und, List.replicate, List.cons_append, List.nil_append]
  refine ee_seq_reg rfl (by simp [c37, c37M]; rfl) ?_
  by_cases c45 : p23 < 32
  ·skip
   rw [if_pos] at hr44
   rotate_left
   ·simp [c37, c37M, c45]
   refine ee_seq_condT (by simp [bV, c37, c37M, c45]) ?_
   refine ee_seq_skip ?_
   refine ee_seq_block ?_
   refine ee_seq_reg rfl (by simp [c37, c37M, c45]; rfl) ?_
   obtain ⟨j46, hj46, hr44⟩ := bs hr44
   obtain ⟨j46a, j46b, j46c⟩ := inA_some hj46
   have j46d : j46 ≤ 7 := by omega
   have ar47 := arC_get (k := .u32) (p12) (i := j46) j46c
   have as48 := arC_sub (k := .u32) (p12) (i := j46) j46c
   obtain ⟨_, u49, hr44⟩ := bs hr44
   have u49_0 := chk_some u49
   obtain ⟨j50, hj50, hr44⟩ := bs hr44
   obtain ⟨j50a, j50b, j50c⟩ := inA_some hj50
   have j50d : j50 ≤ 31 := by omega
   have ap51 := arC_put (k := .u8) (p24) (i := j50) j50c (IntKind.u8.wrap ((p12.at j46).fdiv (2 ^ (min (IntKind.i64.wrap (24 - (IntKind.i64.wrap (((p23).tmod 4) * 8)))).toNat 32))))
   refine ee_reg rfl (by simp [j46a, j46b, j46c, j46d, ar47, as48, u49_0, j50a, j50b, j50c, j50d, ap51, c37, c37M, c45]; rfl) ?_
   simp only [pq, reduceCtorEq]
   refine ee_reg rfl (by simp [c37, c37M, c45]; rfl) ?_
   obtain rfl := Option.some.inj hr44
   simp only [pq, reduceCtorEq]
   simp [und, List.replicate, Nat.add_assoc, c37, c37M, c45]
  ·skip
   rw [if_neg] at hr44
   rotate_left
   ·simp [c37, c37M, c45]
   refine ee_seq_condF (by simp [bV, c37, c37M, c45]) ?_
   refine ee_seq_exit ?_
   obtain ⟨r52, q52, rfl⟩ := ms hr44
   simp only [pq, reduceCtorEq]
   rintro rfl
   try simp only [pq, reduceCtorEq]
   unfold Lsha_Sum_k2 at q52
   refine ee_seq_reg rfl (by simp [c37, c37M, c45]; rfl) ?_
   refine ee_ret ?_
   obtain rfl := Option.some.inj q52
   simp [FinQ, c37, c37M, c45]
def kp99 : Keep := fun i => ⟨[], [], []⟩
theorem w99 {T : Tab} (hT114 : T 114 = some G114) (a0 : (List Int)) (x : (Arr 32)) (hr : Lsha_Double a0 = some x) : ∃ kp fl n, execFn tt T G kp fl n Tryd.f99 (E99 a0) = some (R99 a0 x) := by
 simp only [E99, R99]
 refine fnE (kp := kp99) (w := false) body99 ?_
 unfold c99
 rw [Tryd.ntmps99]
 unfold Lsha_Double at hr
 refine ee_seq_reg rfl (by simp []; rfl) ?_
 obtain ⟨y3, hy3, hr⟩ := bs hr
 have ehy3 := G114_eq hy3
 simp only [E114, R114, nf, nfs] at ehy3
 refine ee_seq_reg rfl (by simp [hT114, ehy3]; rfl) ?_
 obtain ⟨y4, hy4, hr⟩ := bs hr
 have ehy4 := G114_eq hy4
 simp only [E114, R114, nf, nfs] at ehy4
 refine ee_seq_reg rfl (by simp [hT114, ehy4]; rfl) ?_
 refine ee_ret ?_
 obtain rfl := Option.some.inj hr
 simp [FinQ, hT114, ehy4]
def kp78 : Keep := fun i => ⟨[], [], []⟩
theorem w78 {T : Tab} (hT98 : T 98 = some G98) (hT99 : T 99 = some G99) (a0 : Tapi_Tx) (a1 : Bool) (x : (Arr 32)) (hr : Ltx_digest a0 a1 = some x) : ∃ kp fl n, execFn tt T G kp fl n Tryd.f78 (E78 (a0, a1)) = some (R78 (a0, a1) x) := by
 simp only [E78, R78]
 refine fnE (kp := kp78) (w := false) body78 ?_
 unfold c78
 rw [Tryd.ntmps78]
 unfold Ltx_digest at hr
 refine ee_seq_reg rfl (by simp []; rfl) ?_
 obtain ⟨y3, hy3, hr⟩ := bs hr
 have ehy3 := G98_eq hy3
 simp only [E98, R98, nf, nfs] at ehy3
 refine ee_seq_reg rfl (by simp [hT98, ehy3]; rfl) ?_
 refine ee_assoc ?_
 refine ee_seq_reg rfl (by simp []; rfl) ?_
 by_cases c4 : y3.2 = 0
 ·skip
  rw [if_neg (not_not_intro c4)] at hr
  refine ee_seq_condF (by simp [bV, eq_true c4]) ?_
  refine ee_seq_skip ?_
  obtain ⟨y5, hy5, hr⟩ := bs hr
  have ehy5 := G99_eq hy5
  simp only [E99, R99, nf, nfs] at ehy5
  refine ee_seq_reg rfl (by simp [hT99, ehy5, eq_true c4]; rfl) ?_
  refine ee_ret ?_
  obtain rfl := Option.some.inj hr
  simp [FinQ, hT99, ehy5, eq_true c4]
 ·skip
  rw [if_pos c4] at hr
  refine ee_seq_condT (by simp [bV, c4]) ?_
  refine ee_assoc ?_
  refine ee_seq_reg rfl (by simp [c4]; rfl) ?_
  refine ee_seq_ret ?_
  obtain rfl := Option.some.inj hr
  simp [FinQ, c4]
def kp43 : Keep := fun i => ⟨[], [], []⟩
theorem w43 {T : Tab} (hT78 : T 78 = some G78) (a0 : Tapi_Tx) (x : (Arr 32)) (hr : Ltx_ID a0 = some x) : ∃ kp fl n, execFn tt T G kp fl n Tryd.f43 (E43 a0) = some (R43 a0 x) := by
 simp only [E43, R43]
 refine fnE (kp := kp43) (w := false) body43 ?_
 unfold c43
 rw [Tryd.ntmps43]
 unfold Ltx_ID at hr
 refine ee_seq_reg rfl (by simp []; rfl) ?_
 obtain ⟨y2, hy2, hr⟩ := bs hr
 have ehy2 := G78_eq hy2
 simp only [E78, R78, nf, nfs] at ehy2
 refine ee_seq_reg rfl (by simp [hT78, ehy2]; rfl) ?_
 refine ee_ret ?_
 obtain rfl := Option.some.inj hr
 simp [FinQ, hT78, ehy2]
def kp46 : Keep := fun i => ⟨[], [], []⟩
theorem w46 {T : Tab} (a0 : Int) (x : Bool) (hr : Lreplace_money a0 = some x) : ∃ kp fl n, execFn tt T G kp fl n Tryd.f46 (E46 a0) = some (R46 a0 x) := by
 simp only [E46, R46]
 refine fnE (kp := kp46) (w := false) body46 ?_
 unfold c46
 rw [Tryd.ntmps46]
 unfold Lreplace_money at hr
 refine ee_seq_reg rfl (by simp []; rfl) ?_
 by_cases c1 : 0 ≤ a0
 ·skip
  refine ee_seq_reg rfl (by simp [c1]; rfl) ?_
  refine ee_ret ?_
  obtain rfl := Option.some.inj hr
  simp [FinQ, c1]
 ·skip
  refine ee_seq_reg rfl (by simp [c1]; rfl) ?_
  refine ee_ret ?_
  obtain rfl := Option.some.inj hr
  simp [FinQ, c1]
def kp47 : Keep := fun i => ⟨[], [], []⟩
theorem w47 {T : Tab} (hT46 : T 46 = some G46) (a0 : Tapi_Entry) (x : Bool) (hr : Lreplace_Accept_3 a0 = some x) : ∃ kp fl n, execFn tt T G kp fl n Tryd.f47 (E47 a0) = some (R47 a0 x) := by
 simp only [E47, R47]
 refine fnE (kp := kp47) (w := false) body47 ?_
 unfold c47
 rw [Tryd.ntmps47]
 unfold Lreplace_Accept_3 at hr
 refine ee_seq_reg rfl (by simp []; rfl) ?_
 obtain ⟨y2, hy2, hr⟩ := bs hr
 have ehy2 := G46_eq hy2
 simp only [E46, R46, nf, nfs] at ehy2
 refine ee_seq_reg rfl (by simp [hT46, ehy2]; rfl) ?_
 refine ee_ret ?_
 obtain rfl := Option.some.inj hr
 simp [FinQ, hT46, ehy2]
def kp49 : Keep := fun i => ⟨[], [], []⟩
theorem w49 {T : Tab} (hT11 : T 11 = some G11) (a0 : Tapi_Entry) (x : Bool) (hr : Lreplace_Accept_5 a0 = some x) : ∃ kp fl n, execFn tt T G kp fl n Tryd.f49 (E49 a0) = some (R49 a0 x) := by
 simp only [E49, R49]
 refine fnE (kp := kp49) (w := false) body49 ?_
 unfold c49
 rw [Tryd.ntmps49]
 unfold Lreplace_Accept_5 at hr
 refine ee_seq_reg rfl (by simp []; rfl) ?_
 obtain ⟨y2, hy2, hr⟩ := bs hr
 have ehy2 := G11_eq hy2
 simp only [E11, R11, nf, nfs] at ehy2
 refine ee_seq_reg rfl (by simp [hT11, ehy2]; rfl) ?_
 refine ee_ret ?_
 obtain rfl := Option.some.inj hr
 simp [FinQ, hT11, ehy2]
def kp66 : Keep := fun i => ⟨[], [], []⟩
theorem w66 {T : Tab} (hT75 : T 75 = some G75) (hT95 : T 95 = some G95) (a0 : Tapi_Tx) (x : Int) (hr : Ltx_Weight a0 = some x) : ∃ kp fl n, execFn tt T G kp fl n Tryd.f66 (E66 a0) = some (R66 a0 x) := by
 simp only [E66, R66]
 refine fnE (kp := kp66) (w := false) body66 ?_
 unfold c66
 rw [Tryd.ntmps66]
 unfold Ltx_Weight at hr
 refine ee_seq_reg rfl (by simp []; rfl) ?_
 refine ee_assoc ?_
 obtain ⟨y4, hy4, hr⟩ := bs hr
 have ehy4 := G75_eq hy4
 simp only [E75, R75, nf, nfs] at ehy4
 refine ee_seq_reg rfl (by simp [hT75, ehy4]; rfl) ?_
 by_cases c5 : y4 = true
 ·skip
  rw [if_neg (not_not_intro c5)] at hr
  refine ee_seq_condF (by simp [bV, c5]) ?_
  refine ee_seq_skip ?_
  obtain ⟨y6, hy6, hr⟩ := bs hr
  have ehy6 := G95_eq hy6
  simp only [E95, R95, nf, nfs] at ehy6
  obtain ⟨y7, hy7, hr⟩ := bs hr
  have ehy7 := G95_eq hy7
  simp only [E95, R95, nf, nfs] at ehy7
  refine ee_seq_draw rfl (by simp [hT95, ehy6, ehy7, c5]; first | exact ⟨rfl, rfl⟩ | rfl) (by kernel_rfl) ?_
  refine ee_ret ?_
  obtain rfl := Option.some.inj hr
  simp [FinQ, hT95, ehy6, ehy7, c5]
 ·skip
  rw [if_pos c5] at hr
  refine ee_seq_condT (by simp [bV, c5]) ?_
  refine ee_assoc ?_
  refine ee_seq_reg rfl (by simp [c5]; rfl) ?_
  refine ee_seq_ret ?_
  obtain rfl := Option.some.inj hr
  simp [FinQ, c5]
def kp67 : Keep := fun i => ⟨[], [], []⟩
theorem w67 {T : Tab} (a0 : Int) (a1 : Int) (x : Int) (hr : Lbuild_Fee a0 a1 = some x) : ∃ kp fl n, execFn tt T G kp fl n Tryd.f67 (E67 (a0, a1)) = some (R67 (a0, a1) x) := by
 simp only [E67, R67]
 refine fnE (kp := kp67) (w := false) body67 ?_
 unfold c67
 rw [Tryd.ntmps67]
 unfold Lbuild_Fee at hr
 refine ee_seq_reg rfl (by simp []; rfl) ?_
 refine ee_assoc ?_
 by_cases c1 : a0 < 0
 ·skip
  refine ee_seq_reg rfl (by simp [c1]; rfl) ?_
  rw [if_pos] at hr
  rotate_left
  ·simp [c1]
  refine ee_seq_condT (by simp [bV, c1]) ?_
  refine ee_assoc ?_
  refine ee_seq_reg rfl (by simp [c1]; rfl) ?_
  refine ee_seq_ret ?_
  obtain rfl := Option.some.inj hr
  simp [FinQ, c1]
 ·skip
  by_cases c2 : 80000 < a0
  ·skip
   refine ee_seq_reg rfl (by simp [c1, c2]; rfl) ?_
   rw [if_pos] at hr
   rotate_left
   ·simp [c1, c2]
   refine ee_seq_condT (by simp [bV, c1, c2]) ?_
   refine ee_assoc ?_
   refine ee_seq_reg rfl (by simp [c1, c2]; rfl) ?_
   refine ee_seq_ret ?_
   obtain rfl := Option.some.inj hr
   simp [FinQ, c1, c2]
  ·skip
   by_cases c3 : a1 < 0
   ·skip
    refine ee_seq_reg rfl (by simp [c1, c2, c3]; rfl) ?_
    rw [if_pos] at hr
    rotate_left
    ·simp [c1, c2, c3]
    refine ee_seq_condT (by simp [bV, c1, c2, c3]) ?_
    refine ee_assoc ?_
    refine ee_seq_reg rfl (by simp [c1, c2, c3]; rfl) ?_
    refine ee_seq_ret ?_
    obtain rfl := Option.some.inj hr
    simp [FinQ, c1, c2, c3]
   ·skip
    refine ee_seq_reg rfl (by simp [c1, c2, c3]; rfl) ?_
    by_cases c4 : 1048576 < a1
    ·skip
     rw [if_pos] at hr
     rotate_left
     ·simp [c1, c2, c3, c4]
     refine ee_seq_condT (by simp [bV, c1, c2, c3, c4]) ?_
     refine ee_assoc ?_
     refine ee_seq_reg rfl (by simp [c1, c2, c3, c4]; rfl) ?_
     refine ee_seq_ret ?_
     obtain rfl := Option.some.inj hr
     simp [FinQ, c1, c2, c3, c4]
    ·skip
     rw [if_neg] at hr
     rotate_left
     ·simp [c1, c2, c3, c4]
     refine ee_seq_condF (by simp [bV, c1, c2, c3, c4]) ?_
     refine ee_seq_skip ?_
     refine ee_seq_reg rfl (by simp [c1, c2, c3, c4]; rfl) ?_
     refine ee_ret ?_
     obtain rfl := Option.some.inj hr
     simp [FinQ, c1, c2, c3, c4]
def kp80 : Keep := fun i => ⟨[], [], []⟩
theorem w80 {T : Tab} (a0 : Int) (a1 : Int) (x : Int) (hr : Lfees_Rate a0 a1 = some x) : ∃ kp fl n, execFn tt T G kp fl n Tryd.f80 (E80 (a0, a1)) = some (R80 (a0, a1) x) := by
 simp only [E80, R80]
 refine fnE (kp := kp80) (w := false) body80 ?_
 unfold c80
 rw [Tryd.ntmps80]
 unfold Lfees_Rate at hr
 refine ee_seq_reg rfl (by simp []; rfl) ?_
 refine ee_assoc ?_
 by_cases c2 : a0 < 0
 ·skip
  refine ee_seq_reg rfl (by simp [c2]; rfl) ?_
  rw [if_pos] at hr
  rotate_left
  ·simp [c2]
  refine ee_seq_condT (by simp [bV, c2]) ?_
  refine ee_assoc ?_
  refine ee_seq_reg rfl (by simp [c2]; rfl) ?_
  refine ee_seq_ret ?_
  obtain rfl := Option.some.inj hr
  simp [FinQ, c2]
 ·skip
  by_cases c3 : 2100000000000000 < a0
  ·skip
   refine ee_seq_reg rfl (by simp [c2, c3]; rfl) ?_
   rw [if_pos] at hr
   rotate_left
   ·simp [c2, c3]
   refine ee_seq_condT (by simp [bV, c2, c3]) ?_
   refine ee_assoc ?_
   refine ee_seq_reg rfl (by simp [c2, c3]; rfl) ?_
   refine ee_seq_ret ?_
   obtain rfl := Option.some.inj hr
   simp [FinQ, c2, c3]
  ·skip
   by_cases c4 : a1 < 1
   ·skip
    refine ee_seq_reg rfl (by simp [c2, c3, c4]; rfl) ?_
    rw [if_pos] at hr
    rotate_left
    ·simp [c2, c3, c4]
    refine ee_seq_condT (by simp [bV, c2, c3, c4]) ?_
    refine ee_assoc ?_
    refine ee_seq_reg rfl (by simp [c2, c3, c4]; rfl) ?_
    refine ee_seq_ret ?_
    obtain rfl := Option.some.inj hr
    simp [FinQ, c2, c3, c4]
   ·skip
    refine ee_seq_reg rfl (by simp [c2, c3, c4]; rfl) ?_
    by_cases c5 : 80000 < a1
    ·skip
     rw [if_pos] at hr
     rotate_left
     ·simp [c2, c3, c4, c5]
     refine ee_seq_condT (by simp [bV, c2, c3, c4, c5]) ?_
     refine ee_assoc ?_
     refine ee_seq_reg rfl (by simp [c2, c3, c4, c5]; rfl) ?_
     refine ee_seq_ret ?_
     obtain rfl := Option.some.inj hr
     simp [FinQ, c2, c3, c4, c5]
    ·skip
     rw [if_neg] at hr
     rotate_left
     ·simp [c2, c3, c4, c5]
     refine ee_seq_condF (by simp [bV, c2, c3, c4, c5]) ?_
     refine ee_seq_skip ?_
     obtain ⟨_, u6, hr⟩ := bs hr
     have u6_0 := chk_some u6
     refine ee_seq_reg rfl (by simp [u6_0, c2, c3, c4, c5]; rfl) ?_
     refine ee_ret ?_
     obtain rfl := Option.some.inj hr
     simp [FinQ, u6_0, c2, c3, c4, c5]
end Go.Proofs.YtconfbgcjkjnkaaDoor
