import Derived.Test.YtipochhfofhofaaDoorLfK
import Derived.Test.YtipochhfofhofaaDoorCode
namespace Go.Proofs.YtipochhfofhofaaDoor
open Go.RowKit
open Go.Av
open Go.Lc
set_option maxRecDepth 100000
set_option linter.unusedSimpArgs false
set_option linter.unusedVariables false
set_option maxHeartbeats 4000000
def kp61 : Keep := fun i => if i = 2 then ⟨[0, 3], [5], []⟩ else if i = 5 then ⟨[0, 3, 4], [5], []⟩ else ⟨[], [], []⟩
theorem w61 {T : Tab} (a0 : Int) (x : (List Int)) (hr : Lref03_Pad a0 = some x) : ∃ kp fl n, execFn tt T G kp fl n Tryd.f61 (E61 a0) = some (R61 a0 x) := by
 simp only [E61, R61]
 refine fnE (kp := kp61) (w := true) body61 (by simp) ?_
 unfold c61
 rw [Tryd.ntmps61]
 unfold Lref03_Pad at hr
 refine ee_seq_reg rfl (by simp []; rfl) ?_
 refine ee_seq_reg rfl (by simp []; rfl) ?_
 refine ee_seq_block ?_
 refine ee_loop (kq := ⟨[0, 3], [5], []⟩) (H := fun (s : (List Int)) => match s with | p4 => (⟨([.one (.v (.int .u64 a0))] ++ (und 2 ++ ([.one (.ms 5 0 0 (p4.length) 1)] ++ (und 27))) : List PV), ([(5, ⟨0, 1, intsR .u8 p4, false, true⟩)] : Boxes)⟩ : ASt)) (by kernel_rfl) hr (by simp [und, List.replicate, ]) ?_
 rintro p4 x23r hr23
 simp only [Lref03_Pad_s1] at hr23
 unfold b61_1
 simp only [und, List.replicate, List.cons_append, List.nil_append]
 refine ee_assoc ?_
 refine ee_seq_reg rfl (by simp []; rfl) ?_
 by_cases c24 : (IntKind.u64.wrap ((IntKind.u64.wrap (a0 + (IntKind.u64.wrap ((p4.length : Int))))) + 8)).tmod 64 = 0
 ·skip
  have c24N := c24
  try simp at c24N
  rw [if_neg] at hr23
  rotate_left
  ·simp [eq_true c24, eq_true c24N]
  refine ee_seq_condF (by simp [bV, eq_true c24, eq_true c24N]) ?_
  refine ee_seq_exit ?_
  obtain ⟨r25, q25, rfl⟩ := ms hr23
  simp only [pq, reduceCtorEq]
  rintro rfl
  try simp only [pq, reduceCtorEq]
  unfold Lref03_Pad_k1 at q25
  refine ee_assoc ?_
  refine ee_seq_reg rfl (by simp [eq_true c24, eq_true c24N]; rfl) ?_
  refine ee_seq_block ?_
  refine ee_loop (kq := ⟨[0, 3, 4], [5], []⟩) (H := fun (s : Int × (List Int)) => match s with | (p12, p13) => (⟨([.one (.v (.int .u64 a0))] ++ (und 2 ++ ([.one (.ms 5 0 0 (p13.length) 1), .one (.v (.int .i64 p12))] ++ (und 26))) : List PV), ([(5, ⟨0, 1, intsR .u8 p13, false, true⟩)] : Boxes)⟩ : ASt)) (by kernel_rfl) q25 (by simp [und, List.replicate, eq_true c24, eq_true c24N]) ?_
  rintro ⟨p12, p13⟩ x31r hr31
  simp only [Lref03_Pad_s2] at hr31
  unfold b61_2
  simp only [und, List.replicate, List.cons_append, List.nil_append]
  refine ee_assoc ?_
  refine ee_seq_reg rfl (by simp [eq_true c24, eq_true c24N]; rfl) ?_
  by_cases c32 : 0 ≤ p12
  ·skip
   rw [if_pos] at hr31
   rotate_left
   ·simp [eq_true c24, eq_true c24N, c32]
   refine ee_seq_condT (by simp [bV, eq_true c24, eq_true c24N, c32]) ?_
   refine ee_seq_skip ?_
   refine ee_seq_block ?_
   obtain ⟨_, u33, hr31⟩ := bs hr31
   have u33_0 := chk_some u33
   obtain ⟨_, u34, hr31⟩ := bs hr31
   have u34_0 := chk_some u34
   have n1_u34_0 : p13.length + 1 ≤ 140737488355328 := by omega
   have n2_u34_0 : p13.length + 1 ≤ 9223372036854775807 := by omega
   refine ee_reg rfl (by simp [u33_0, n1_u34_0, n2_u34_0, eq_true c24, eq_true c24N, c32]; rfl) ?_
   simp only [pq, reduceCtorEq]
   refine ee_reg rfl (by simp [eq_true c24, eq_true c24N, c32]; rfl) ?_
   obtain rfl := Option.some.inj hr31
   simp only [pq, reduceCtorEq]
   simp [und, List.replicate, Nat.add_assoc, eq_true c24, eq_true c24N, c32]
  ·skip
   rw [if_neg] at hr31
   rotate_left
   ·simp [eq_true c24, eq_true c24N, c32]
   refine ee_seq_condF (by simp [bV, eq_true c24, eq_true c24N, c32]) ?_
   refine ee_seq_exit ?_
   obtain ⟨r35, q35, rfl⟩ := ms hr31
   simp only [pq, reduceCtorEq]
   rintro rfl
   try simp only [pq, reduceCtorEq]
   unfold Lref03_Pad_k2 at q35
   refine ee_seq_reg rfl (by simp [eq_true c24, eq_true c24N, c32]; rfl) ?_
   refine ee_ret ?_
   obtain rfl := Option.some.inj q35
   simp [FinQ, eq_true c24, eq_true c24N, c32]
 ·skip
  have c24N := c24
  try simp at c24N
  first | have c24M : (_ = _) = True := eq_true c24N | have c24M := c24N
  rw [if_pos] at hr23
  rotate_left
  ·simp [c24, c24M]
  refine ee_seq_condT (by simp [bV, c24, c24M]) ?_
  refine ee_seq_skip ?_
  refine ee_block ?_
  obtain ⟨_, u36, hr23⟩ := bs hr23
  have u36_0 := chk_some u36
  have n1_u36_0 : p4.length + 1 ≤ 140737488355328 := by omega
  have n2_u36_0 : p4.length + 1 ≤ 9223372036854775807 := by omega
  refine ee_reg rfl (by simp [n1_u36_0, n2_u36_0, c24, c24M]; rfl) ?_
  obtain rfl := Option.some.inj hr23
  simp only [pq, reduceCtorEq]
  simp [und, List.replicate, Nat.add_assoc, n1_u36_0, n2_u36_0, c24, c24M]
def kp62 : Keep := fun i => ⟨[], [], []⟩
theorem w62 {T : Tab} (x : (Arr 8)) (hr : Lref03_Initial  = some x) : ∃ kp fl n, execFn tt T G kp fl n Tryd.f62 (E62 ()) = some (R62 () x) := by
 simp only [E62, R62]
 refine fnE (kp := kp62) (w := false) body62 (by simp) ?_
 unfold c62
 rw [Tryd.ntmps62]
 unfold Lref03_Initial at hr
 refine ee_seq_reg rfl (by simp []; rfl) ?_
 have ap1 := arC_put (k := .u32) (zA 8) (i := 0) (by decide) (1779033703)
 have ap2 := arC_put (k := .u32) ((zA 8).put 0 1779033703) (i := 1) (by decide) (3144134277)
 have ap3 := arC_put (k := .u32) (((zA 8).put 0 1779033703).put 1 3144134277) (i := 2) (by decide) (1013904242)
 have ap4 := arC_put (k := .u32) ((((zA 8).put 0 1779033703).put 1 3144134277).put 2 1013904242) (i := 3) (by decide) (2773480762)
 have ap5 := arC_put (k := .u32) (((((zA 8).put 0 1779033703).put 1 3144134277).put 2 1013904242).put 3 2773480762) (i := 4) (by decide) (1359893119)
 have ap6 := arC_put (k := .u32) ((((((zA 8).put 0 1779033703).put 1 3144134277).put 2 1013904242).put 3 2773480762).put 4 1359893119) (i := 5) (by decide) (2600822924)
 have ap7 := arC_put (k := .u32) (((((((zA 8).put 0 1779033703).put 1 3144134277).put 2 1013904242).put 3 2773480762).put 4 1359893119).put 5 2600822924) (i := 6) (by decide) (528734635)
 have ap8 := arC_put (k := .u32) ((((((((zA 8).put 0 1779033703).put 1 3144134277).put 2 1013904242).put 3 2773480762).put 4 1359893119).put 5 2600822924).put 6 528734635) (i := 7) (by decide) (1541459225)
 refine ee_seq_reg rfl (by simp [ap1, ap2, ap3, ap4, ap5, ap6, ap7, ap8]; rfl) ?_
 refine ee_ret ?_
 obtain rfl := Option.some.inj hr
 simp [FinQ, ap1, ap2, ap3, ap4, ap5, ap6, ap7, ap8]
def kp69 : Keep := fun i => ⟨[], [], []⟩
theorem w69 {T : Tab} (hO : T.own = fun _ => []) (hT70 : T 70 = some G70) (a0 : Int) (a1 : Int) (x : Int) (hr : Lref03_rotr a0 a1 = some x) : ∃ kp fl n, execFn tt T G kp fl n Tryd.f69 (E69 (a0, a1)) = some (R69 (a0, a1) x) := by
 simp only [E69, R69]
 refine fnE (kp := kp69) (w := false) body69 (by simp) ?_
 unfold c69
 rw [Tryd.ntmps69]
 unfold Lref03_rotr at hr
 refine ee_seq_reg rfl (by simp []; rfl) ?_
 obtain ⟨y2, hy2, hr⟩ := bs hr
 have ehy2 := G70_eq hy2
 simp only [E70, R70, nf, nfs] at ehy2
 refine ee_seq_reg rfl (by simp [hO, hT70, ehy2]; rfl) ?_
 refine ee_ret ?_
 obtain rfl := Option.some.inj hr
 simp [FinQ, hO, hT70, ehy2]
def kp67 : Keep := fun i => if i = 3 then ⟨[1, 2, 3, 4], [1, 2, 3], []⟩ else if i = 7 then ⟨[2, 3, 5], [2, 3], []⟩ else ⟨[], [], []⟩
theorem w67 {T : Tab} (hO : T.own = fun _ => []) (hT69 : T 69 = some G69) (a0 : (Arr 64)) (x : (Arr 64)) (hr : Lref03_schedule a0 = some x) : ∃ kp fl n, execFn tt T G kp fl n Tryd.f67 (E67 a0) = some (R67 a0 x) := by
 simp only [E67, R67]
 refine fnE (kp := kp67) (w := false) body67 (by simp) ?_
 unfold c67
 rw [Tryd.ntmps67]
 unfold Lref03_schedule at hr
 refine ee_seq_reg rfl (by simp []; rfl) ?_
 refine ee_seq_reg rfl (by simp []; rfl) ?_
 refine ee_assoc ?_
 refine ee_seq_reg rfl (by simp []; rfl) ?_
 refine ee_seq_block ?_
 refine ee_loop (kq := ⟨[1, 2, 3, 4], [1, 2, 3], []⟩) (H := fun (s : Int × (Arr 64)) => match s with | (p12, p13) => (⟨(und 1 ++ ([.ptr 1 0 0 0 64, .ptr 2 0 0 0 64, .ptr 3 0 0 0 64, .one (.v (.int .i64 p12))] ++ (und 92)) : List PV), ([(1, ⟨0, 64, [arC .u8 a0], false, false⟩), (2, ⟨0, 64, [arC .u32 (zA 64)], false, false⟩), (3, ⟨0, 64, [arC .u32 p13], false, false⟩)] : Boxes)⟩ : ASt)) (by kernel_rfl) hr (by simp [und, List.replicate, ]) ?_
 rintro ⟨p12, p13⟩ x80r hr80
 simp only [Lref03_schedule_s1] at hr80
 unfold b67_1
 simp only [und, List.replicate, List.cons_append, List.nil_append]
 refine ee_assoc ?_
 refine ee_seq_reg rfl (by simp []; rfl) ?_
 by_cases c81 : p12 < 16
 ·skip
  rw [if_pos] at hr80
  rotate_left
  ·simp [c81]
  refine ee_seq_condT (by simp [bV, c81]) ?_
  refine ee_seq_skip ?_
  refine ee_seq_block ?_
  obtain ⟨j82, hj82, hr80⟩ := bs hr80
  obtain ⟨j82a, j82b, j82c⟩ := inA_some hj82
  have j82d : j82 ≤ 63 := by omega
  have ar83 := arC_get (k := .u8) (a0) (i := j82) j82c
  have as84 := arC_sub (k := .u8) (a0) (i := j82) j82c
  obtain ⟨j85, hj85, hr80⟩ := bs hr80
  obtain ⟨j85a, j85b, j85c⟩ := inA_some hj85
  have j85d : j85 ≤ 63 := by omega
  have ar86 := arC_get (k := .u8) (a0) (i := j85) j85c
  have as87 := arC_sub (k := .u8) (a0) (i := j85) j85c
  obtain ⟨j88, hj88, hr80⟩ := bs hr80
  obtain ⟨j88a, j88b, j88c⟩ := inA_some hj88
  have j88d : j88 ≤ 63 := by omega
  have ar89 := arC_get (k := .u8) (a0) (i := j88) j88c
  have as90 := arC_sub (k := .u8) (a0) (i := j88) j88c
  obtain ⟨j91, hj91, hr80⟩ := bs hr80
  obtain ⟨j91a, j91b, j91c⟩ := inA_some hj91
  have j91d : j91 ≤ 63 := by omega
  have ar92 := arC_get (k := .u8) (a0) (i := j91) j91c
  have as93 := arC_sub (k := .u8) (a0) (i := j91) j91c
  obtain ⟨j94, hj94, hr80⟩ := bs hr80
  obtain ⟨j94a, j94b, j94c⟩ := inA_some hj94
  have j94d : j94 ≤ 63 := by omega
  have ap95 := arC_put (k := .u32) (p13) (i := j94) j94c (bits .or .u32 (bits .or .u32 (bits .or .u32 (IntKind.u32.wrap ((IntKind.u32.wrap (a0.at j82)) * 16777216)) (IntKind.u32.wrap ((IntKind.u32.wrap (a0.at j85)) * 65536))) (IntKind.u32.wrap ((IntKind.u32.wrap (a0.at j88)) * 256))) (IntKind.u32.wrap (a0.at j91)))
  refine ee_draw rfl (by simp [j82a, j82b, j82c, j82d, ar83, as84, j85a, j85b, j85c, j85d, ar86, as87, j88a, j88b, j88c, j88d, ar89, as90, j91a, j91b, j91c, j91d, ar92, as93, j94a, j94b, j94c, j94d, ap95, c81]; first | exact ⟨rfl, rfl⟩ | rfl) (by kernel_rfl) ?_
  simp only [pq, reduceCtorEq]
  refine ee_reg rfl (by simp [c81]; rfl) ?_
  obtain rfl := Option.some.inj hr80
  simp only [pq, reduceCtorEq]
  simp [und, List.replicate, Nat.add_assoc, c81]
 ·skip
  rw [if_neg] at hr80
  rotate_left
  ·simp [c81]
  refine ee_seq_condF (by simp [bV, c81]) ?_
  refine ee_seq_exit ?_
  obtain ⟨r96, q96, rfl⟩ := ms hr80
  simp only [pq, reduceCtorEq]
  rintro rfl
  try simp only [pq, reduceCtorEq]
  unfold Lref03_schedule_k1 at q96
  refine ee_assoc ?_
  refine ee_seq_reg rfl (by simp [c81]; rfl) ?_
  refine ee_seq_block ?_
  refine ee_loop (kq := ⟨[2, 3, 5], [2, 3], []⟩) (H := fun (s : Int × (Arr 64)) => match s with | (p38, p39) => (⟨(und 2 ++ ([.ptr 2 0 0 0 64, .ptr 3 0 0 0 64] ++ (und 1 ++ ([.one (.v (.int .i64 p38))] ++ (und 91)))) : List PV), ([(2, ⟨0, 64, [arC .u32 (zA 64)], false, false⟩), (3, ⟨0, 64, [arC .u32 p39], false, false⟩)] : Boxes)⟩ : ASt)) (by kernel_rfl) q96 (by simp [und, List.replicate, c81]) ?_
  rintro ⟨p38, p39⟩ x126r hr126
  simp only [Lref03_schedule_s2] at hr126
  unfold b67_2
  simp only [und, List.replicate, List.cons_append, List.nil_append]
  refine ee_assoc ?_
  refine ee_seq_reg rfl (by simp [c81]; rfl) ?_
  by_cases c127 : p38 < 64
  ·skip
   rw [if_pos] at hr126
   rotate_left
   ·simp [c81, c127]
   refine ee_seq_condT (by simp [bV, c81, c127]) ?_
   refine ee_seq_skip ?_
   refine ee_seq_block ?_
   obtain ⟨j128, hj128, hr126⟩ := bs hr126
   obtain ⟨j128a, j128b, j128c⟩ := inA_some hj128
   have j128d : j128 ≤ 63 := by omega
   have ar129 := arC_get (k := .u32) (p39) (i := j128) j128c
   have as130 := arC_sub (k := .u32) (p39) (i := j128) j128c
   obtain ⟨y131, hy131, hr126⟩ := bs hr126
   have ehy131 := G69_eq hy131
   simp only [E69, R69, nf, nfs] at ehy131
   obtain ⟨j128a, j128b, j128c⟩ := inA_some hj128
   have j128d : j128 ≤ 63 := by omega
   have ar132 := arC_get (k := .u32) (p39) (i := j128) j128c
   have as133 := arC_sub (k := .u32) (p39) (i := j128) j128c
   obtain ⟨y134, hy134, hr126⟩ := bs hr126
   have ehy134 := G69_eq hy134
   simp only [E69, R69, nf, nfs] at ehy134
   obtain ⟨j128a, j128b, j128c⟩ := inA_some hj128
   have j128d : j128 ≤ 63 := by omega
   have ar135 := arC_get (k := .u32) (p39) (i := j128) j128c
   have as136 := arC_sub (k := .u32) (p39) (i := j128) j128c
   refine ee_seq_draw rfl (by simp [j128a, j128b, j128c, j128d, ar129, as130, hO, hT69, ehy131, ar132, as133, ehy134, ar135, as136, c81, c127]; first | exact ⟨rfl, rfl⟩ | rfl) (by kernel_rfl) ?_
   obtain ⟨j137, hj137, hr126⟩ := bs hr126
   obtain ⟨j137a, j137b, j137c⟩ := inA_some hj137
   have j137d : j137 ≤ 63 := by omega
   have ar138 := arC_get (k := .u32) (p39) (i := j137) j137c
   have as139 := arC_sub (k := .u32) (p39) (i := j137) j137c
   obtain ⟨y140, hy140, hr126⟩ := bs hr126
   have ehy140 := G69_eq hy140
   simp only [E69, R69, nf, nfs] at ehy140
   obtain ⟨j137a, j137b, j137c⟩ := inA_some hj137
   have j137d : j137 ≤ 63 := by omega
   have ar141 := arC_get (k := .u32) (p39) (i := j137) j137c
   have as142 := arC_sub (k := .u32) (p39) (i := j137) j137c
   obtain ⟨y143, hy143, hr126⟩ := bs hr126
   have ehy143 := G69_eq hy143
   simp only [E69, R69, nf, nfs] at ehy143
   obtain ⟨j137a, j137b, j137c⟩ := inA_some hj137
   have j137d : j137 ≤ 63 := by omega
   have ar144 := arC_get (k := .u32) (p39) (i := j137) j137c
   have as145 := arC_sub (k := .u32) (p39) (i := j137) j137c
   refine ee_seq_draw rfl (by simp [j137a, j137b, j137c, j137d, ar138, as139, hO, hT69, ehy140, ar141, as142, ehy143, ar144, as145, c81, c127]; first | exact ⟨rfl, rfl⟩ | rfl) (by kernel_rfl) ?_
   obtain ⟨j146, hj146, hr126⟩ := bs hr126
   obtain ⟨j146a, j146b, j146c⟩ := inA_some hj146
   have j146d : j146 ≤ 63 := by omega
   have ar147 := arC_get (k := .u32) (p39) (i := j146) j146c
   have as148 := arC_sub (k := .u32) (p39) (i := j146) j146c
   obtain ⟨j149, hj149, hr126⟩ := bs hr126
   obtain ⟨j149a, j149b, j149c⟩ := inA_some hj149
   have j149d : j149 ≤ 63 := by omega
   have ar150 := arC_get (k := .u32) (p39) (i := j149) j149c
   have as151 := arC_sub (k := .u32) (p39) (i := j149) j149c
   obtain ⟨j152, hj152, hr126⟩ := bs hr126
   obtain ⟨j152a, j152b, j152c⟩ := inA_some hj152
   have j152d : j152 ≤ 63 := by omega
   have ap153 := arC_put (k := .u32) (p39) (i := j152) j152c (IntKind.u32.wrap ((IntKind.u32.wrap ((IntKind.u32.wrap ((p39.at j146) + (bits .xor .u32 (bits .xor .u32 y131 y134) ((p39.at j128).fdiv 8)))) + (p39.at j149))) + (bits .xor .u32 (bits .xor .u32 y140 y143) ((p39.at j137).fdiv 1024))))
   refine ee_draw rfl (by simp [j146a, j146b, j146c, j146d, ar147, as148, j149a, j149b, j149c, j149d, ar150, as151, j152a, j152b, j152c, j152d, ap153, c81, c127]; first | exact ⟨rfl, rfl⟩ | rfl) (by kernel_rfl) ?_
   simp only [pq, reduceCtorEq]
   refine ee_reg rfl (by simp [c81, c127]; rfl) ?_
   obtain rfl := Option.some.inj hr126
   simp only [pq, reduceCtorEq]
   simp [und, List.replicate, Nat.add_assoc, c81, c127]
  ·skip
   rw [if_neg] at hr126
   rotate_left
   ·simp [c81, c127]
   refine ee_seq_condF (by simp [bV, c81, c127]) ?_
   refine ee_seq_exit ?_
   obtain ⟨r154, q154, rfl⟩ := ms hr126
   simp only [pq, reduceCtorEq]
   rintro rfl
   try simp only [pq, reduceCtorEq]
   unfold Lref03_schedule_k2 at q154
   refine ee_seq_reg rfl (by simp [c81, c127]; rfl) ?_
   refine ee_ret ?_
   obtain rfl := Option.some.inj q154
   simp [FinQ, c81, c127]
end Go.Proofs.YtipochhfofhofaaDoor
