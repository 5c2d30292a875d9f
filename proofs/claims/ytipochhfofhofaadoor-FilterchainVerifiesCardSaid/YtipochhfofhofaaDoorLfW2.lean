import Derived.Test.YtipochhfofhofaaDoorLfK
import Derived.Test.YtipochhfofhofaaDoorCode
namespace Go.Proofs.YtipochhfofhofaaDoor
open Go.RowKit
open Go.Av
open Go.Lc
set_option maxRecDepth 100000
set_option linter.unusedSimpArgs false
set_option linter.unusedVariables false
set_option maxHeartbeats 4000000
def kp16 : Keep := fun i => if i = 3 then ⟨[2, 5, 8, 9, 10], [2, 20], [(5, none, 20, 32)]⟩ else ⟨[], [], []⟩
theorem w16 {T : Tab} (hO : T.own = fun _ => []) (hT31 : T 31 = some G31) (a0 : (Arr 32)) (a1 : (List (Arr 32))) (x : (List (Arr 32))) (hr : Lfilterchain_Batch a0 a1 = some x) : ∃ kp fl n, execFn tt T G kp fl n Tryd.f16 (E16 (a0, a1)) = some (R16 (a0, a1) x) := by
 simp only [E16, R16]
 refine fnE (kp := kp16) (w := true) body16 (by simp) ?_
 unfold c16
 rw [Tryd.ntmps16]
 unfold Lfilterchain_Batch at hr
 refine ee_seq_reg rfl (by simp []; rfl) ?_
 refine ee_seq_reg rfl (by simp []; rfl) ?_
 refine ee_assoc ?_
 refine ee_seq_reg rfl (by simp []; rfl) ?_
 refine ee_seq_block ?_
 refine ee_loop (kq := ⟨[2, 5, 8, 9, 10], [2, 20], [(5, none, 20, 32)]⟩) (H := fun (s : Int × (Arr 32) × (List (Arr 32))) => match s with | (p9, p10, p11) => (⟨(und 2 ++ ([.ptr 2 0 0 0 32] ++ (und 2 ++ ([.one (.ms 20 0 0 (p11.length) 32)] ++ (und 2 ++ ([.one (.slice .no (List.map (arC .u8) a1)), .one (.v (.int .i64 (a1.length : Int))), .one (.v (.int .i64 p9))] ++ (und 12)))))) : List PV), ([(2, ⟨0, 32, [arC .u8 p10], false, false⟩), (20, ⟨0, 32, List.map (arC .u8) p11, false, true⟩)] : Boxes)⟩ : ASt)) (by kernel_rfl) hr (by simp [und, List.replicate, ]) ?_
 rintro ⟨p9, p10, p11⟩ x24r hr24
 simp only [Lfilterchain_Batch_s1] at hr24
 unfold b16_1
 simp only [und, List.replicate, List.cons_append, List.nil_append]
 refine ee_seq_reg rfl (by simp []; rfl) ?_
 by_cases c25 : p9 < (a1.length : Int)
 ·skip
  have c25N := c25
  try simp at c25N
  first | have c25M : (_ = _) = True := eq_true c25N | have c25M := c25N
  rw [if_pos] at hr24
  rotate_left
  ·simp [c25, c25M]
  refine ee_seq_condT (by simp [bV, c25, c25M]) ?_
  refine ee_seq_skip ?_
  refine ee_seq_block ?_
  obtain ⟨x26, hx26, hr24⟩ := bs hr24
  obtain ⟨hx26a, hx26b⟩ := idx_some hx26
  have hx26c := getE_of hx26b
  refine ee_seq_reg rfl (by simp [hx26a, hx26b, hx26c, c25, c25M]; rfl) ?_
  obtain ⟨y27, hy27, hr24⟩ := bs hr24
  have ehy27 := G31_eq hy27
  simp only [E31, R31, nf, nfs] at ehy27
  refine ee_seq_reg rfl (by simp [hO, hT31, ehy27, c25, c25M]; rfl) ?_
  obtain ⟨_, u28, hr24⟩ := bs hr24
  have u28_0 := chk_some u28
  have n1_u28_0 : (p11.length + 1) * 32 ≤ 140737488355328 := by omega
  have n2_u28_0 : p11.length + 1 ≤ 9223372036854775807 := by omega
  refine ee_reg rfl (by simp [n1_u28_0, n2_u28_0, c25, c25M]; rfl) ?_
  simp only [pq, reduceCtorEq]
  refine ee_reg rfl (by simp [c25, c25M]; rfl) ?_
  obtain rfl := Option.some.inj hr24
  simp only [pq, reduceCtorEq]
  simp [und, List.replicate, Nat.add_assoc, c25, c25M]
 ·skip
  have c25N := c25
  try simp at c25N
  first | have c25M : (_ = _) = True := eq_true c25N | have c25M := c25N
  rw [if_neg] at hr24
  rotate_left
  ·simp [c25, c25M]
  refine ee_seq_condF (by simp [bV, c25, c25M]) ?_
  refine ee_seq_exit ?_
  obtain ⟨r29, q29, rfl⟩ := ms hr24
  simp only [pq, reduceCtorEq]
  rintro rfl
  try simp only [pq, reduceCtorEq]
  unfold Lfilterchain_Batch_k1 at q29
  refine ee_seq_reg rfl (by simp [c25, c25M]; rfl) ?_
  refine ee_ret ?_
  obtain rfl := Option.some.inj q29
  simp [FinQ, c25, c25M, c25N]
def kp32 : Keep := fun i => if i = 3 then ⟨[3, 6, 7, 8], [14], [(3, none, 14, 32)]⟩ else ⟨[], [], []⟩
theorem w32 {T : Tab} (a0 : (List (List (Arr 32)))) (x : (List (Arr 32))) (hr : Lfilterchain_join a0 = some x) : ∃ kp fl n, execFn tt T G kp fl n Tryd.f32 (E32 a0) = some (R32 a0 x) := by
 simp only [E32, R32]
 refine fnE (kp := kp32) (w := true) body32 (by simp) ?_
 unfold c32
 rw [Tryd.ntmps32]
 unfold Lfilterchain_join at hr
 refine ee_seq_reg rfl (by simp []; rfl) ?_
 refine ee_seq_reg rfl (by simp []; rfl) ?_
 refine ee_assoc ?_
 refine ee_seq_reg rfl (by simp []; rfl) ?_
 refine ee_seq_block ?_
 refine ee_loop (kq := ⟨[3, 6, 7, 8], [14], [(3, none, 14, 32)]⟩) (H := fun (s : Int × (List (Arr 32))) => match s with | (p7, p8) => (⟨(und 3 ++ ([.one (.ms 14 0 0 (p8.length) 32)] ++ (und 2 ++ ([.one (.slice .no (List.map eS_A32_I_u8 a0)), .one (.v (.int .i64 (a0.length : Int))), .one (.v (.int .i64 p7))] ++ (und 8)))) : List PV), ([(14, ⟨0, 32, List.map (arC .u8) p8, false, true⟩)] : Boxes)⟩ : ASt)) (by kernel_rfl) hr (by simp [und, List.replicate, ]) ?_
 rintro ⟨p7, p8⟩ x18r hr18
 simp only [Lfilterchain_join_s1] at hr18
 unfold b32_1
 simp only [und, List.replicate, List.cons_append, List.nil_append]
 refine ee_seq_reg rfl (by simp []; rfl) ?_
 by_cases c19 : p7 < (a0.length : Int)
 ·skip
  have c19N := c19
  try simp at c19N
  first | have c19M : (_ = _) = True := eq_true c19N | have c19M := c19N
  rw [if_pos] at hr18
  rotate_left
  ·simp [c19, c19M]
  refine ee_seq_condT (by simp [bV, c19, c19M]) ?_
  refine ee_seq_skip ?_
  refine ee_seq_block ?_
  obtain ⟨x20, hx20, hr18⟩ := bs hr18
  obtain ⟨hx20a, hx20b⟩ := idx_some hx20
  have hx20c := getE_of hx20b
  refine ee_seq_reg rfl (by simp [hx20a, hx20b, hx20c, c19, c19M]; rfl) ?_
  obtain ⟨_, u21, hr18⟩ := bs hr18
  have u21_0 := chk_some u21
  have n1_u21_0 : (p8.length + x20.length) * 32 ≤ 140737488355328 := by omega
  have n2_u21_0 : p8.length + x20.length ≤ 9223372036854775807 := by omega
  refine ee_reg rfl (by simp [n1_u21_0, n2_u21_0, c19, c19M]; rfl) ?_
  simp only [pq, reduceCtorEq]
  refine ee_reg rfl (by simp [c19, c19M]; rfl) ?_
  obtain rfl := Option.some.inj hr18
  simp only [pq, reduceCtorEq]
  simp [und, List.replicate, Nat.add_assoc, c19, c19M]
 ·skip
  have c19N := c19
  try simp at c19N
  first | have c19M : (_ = _) = True := eq_true c19N | have c19M := c19N
  rw [if_neg] at hr18
  rotate_left
  ·simp [c19, c19M]
  refine ee_seq_condF (by simp [bV, c19, c19M]) ?_
  refine ee_seq_exit ?_
  obtain ⟨r22, q22, rfl⟩ := ms hr18
  simp only [pq, reduceCtorEq]
  rintro rfl
  try simp only [pq, reduceCtorEq]
  unfold Lfilterchain_join_k1 at q22
  refine ee_seq_reg rfl (by simp [c19, c19M]; rfl) ?_
  refine ee_ret ?_
  obtain rfl := Option.some.inj q22
  simp [FinQ, c19, c19M, c19N]
def kp33 : Keep := fun i => ⟨[], [], []⟩
theorem w33 {T : Tab} (a0 : Tapi_FilterChain) (a1 : Int) (x : (Arr 32)) (hr : Lfilterchain_prev a0 a1 = some x) : ∃ kp fl n, execFn tt T G kp fl n Tryd.f33 (E33 (a0, a1)) = some (R33 (a0, a1) x) := by
 simp only [E33, R33]
 refine fnE (kp := kp33) (w := false) body33 (by simp) ?_
 unfold c33
 rw [Tryd.ntmps33]
 unfold Lfilterchain_prev at hr
 refine ee_seq_reg rfl (by simp []; rfl) ?_
 refine ee_assoc ?_
 refine ee_seq_reg rfl (by simp []; rfl) ?_
 by_cases c2 : a1 = 0
 ·skip
  rw [if_pos c2] at hr
  refine ee_seq_condT (by simp [bV, eq_true c2]) ?_
  refine ee_assoc ?_
  refine ee_seq_reg rfl (by simp [eq_true c2]; rfl) ?_
  refine ee_seq_ret ?_
  obtain rfl := Option.some.inj hr
  simp [FinQ, eq_true c2]
 ·skip
  rw [if_neg c2] at hr
  refine ee_seq_condF (by simp [bV, c2]) ?_
  refine ee_seq_skip ?_
  obtain ⟨x3, hx3, hr⟩ := bs hr
  obtain ⟨hx3a, hx3b⟩ := idx_some hx3
  have hx3c := getE_of hx3b
  refine ee_seq_reg rfl (by simp [hx3a, hx3b, hx3c, c2]; rfl) ?_
  refine ee_ret ?_
  obtain rfl := Option.some.inj hr
  simp [FinQ, hx3a, hx3b, hx3c, c2]
def kp11 : Keep := fun i => ⟨[], [], []⟩
theorem w11 {T : Tab} (hO : T.own = fun _ => []) (hT13 : T 13 = some G13) (hT16 : T 16 = some G16) (hT32 : T 32 = some G32) (hT33 : T 33 = some G33) (a0 : Tapi_FilterChain) (a1 : (List (Arr 32))) (a2 : (List (Arr 32))) (x : Tapi_FilterChain × Int) (hr : Lfilterchain_Extend a0 a1 a2 = some x) : ∃ kp fl n, execFn tt T G kp fl n Tryd.f11 (E11 (a0, a1, a2)) = some (R11 (a0, a1, a2) x) := by
 simp only [E11, R11]
 refine fnE (kp := kp11) (w := false) body11 (by simp) ?_
 unfold c11
 rw [Tryd.ntmps11]
 unfold Lfilterchain_Extend at hr
 refine ee_seq_reg rfl (by simp []; rfl) ?_
 refine ee_assoc ?_
 obtain ⟨y6, hy6, hr⟩ := bs hr
 have ehy6 := G13_eq hy6
 simp only [E13, R13, nf, nfs] at ehy6
 refine ee_seq_reg rfl (by simp [hO, hT13, ehy6]; rfl) ?_
 by_cases c7 : y6 = true
 ·skip
  rw [if_neg (not_not_intro c7)] at hr
  refine ee_seq_condF (by simp [bV, c7]) ?_
  refine ee_seq_skip ?_
  refine ee_assoc ?_
  refine ee_seq_reg rfl (by simp [c7]; rfl) ?_
  by_cases c8 : (a1.length : Int) = (a2.length : Int)
  ·skip
   have c8N := c8
   try simp at c8N
   rw [if_neg (not_not_intro c8)] at hr
   refine ee_seq_condF (by simp [bV, c7, eq_true c8, eq_true c8N]) ?_
   refine ee_seq_skip ?_
   refine ee_seq_reg rfl (by simp [c7, eq_true c8, eq_true c8N]; rfl) ?_
   refine ee_assoc ?_
   refine ee_seq_reg rfl (by simp [c7, eq_true c8, eq_true c8N]; rfl) ?_
   by_cases c9 : 4096 < IntKind.i64.wrap ((a0.2.length : Int) + (a1.length : Int))
   ·skip
    have c9N := c9
    try simp at c9N
    first | have c9M : (_ = _) = True := eq_true c9N | have c9M := c9N
    rw [if_pos c9] at hr
    refine ee_seq_condT (by simp [bV, c7, eq_true c8, eq_true c8N, c9, c9M]) ?_
    refine ee_assoc ?_
    refine ee_seq_reg rfl (by simp [c7, eq_true c8, eq_true c8N, c9, c9M]; rfl) ?_
    refine ee_seq_ret ?_
    obtain rfl := Option.some.inj hr
    simp [FinQ, c7, eq_true c8, eq_true c8N, c9, c9M, c9N]
   ·skip
    have c9N := c9
    try simp at c9N
    first | have c9M : (_ = _) = True := eq_true c9N | have c9M := c9N
    rw [if_neg c9] at hr
    refine ee_seq_condF (by simp [bV, c7, eq_true c8, eq_true c8N, c9, c9M]) ?_
    refine ee_seq_skip ?_
    obtain ⟨y10, hy10, hr⟩ := bs hr
    have ehy10 := G32_eq hy10
    simp only [E32, R32, nf, nfs] at ehy10
    obtain ⟨y11, hy11, hr⟩ := bs hr
    have ehy11 := G33_eq hy11
    simp only [E33, R33, nf, nfs] at ehy11
    obtain ⟨y12, hy12, hr⟩ := bs hr
    have ehy12 := G16_eq hy12
    simp only [E16, R16, nf, nfs] at ehy12
    obtain ⟨y13, hy13, hr⟩ := bs hr
    have ehy13 := G32_eq hy13
    simp only [E32, R32, nf, nfs] at ehy13
    refine ee_seq_draw rfl (by simp [List.range, List.range.loop, hO, hT32, ehy10, hT33, ehy11, hT16, ehy12, ehy13, c7, eq_true c8, eq_true c8N, c9, c9M]; first | exact ⟨rfl, rfl⟩ | rfl) (by kernel_rfl) ?_
    refine ee_ret ?_
    obtain rfl := Option.some.inj hr
    simp [FinQ, List.range, List.range.loop, hO, hT32, ehy10, hT33, ehy11, hT16, ehy12, ehy13, c7, eq_true c8, eq_true c8N, c9, c9M, c9N]
  ·skip
   have c8N := c8
   try simp at c8N
   first | have c8M : (_ = _) = True := eq_true c8N | have c8M := c8N
   rw [if_pos c8] at hr
   refine ee_seq_condT (by simp [bV, c7, c8, c8M]) ?_
   refine ee_assoc ?_
   refine ee_seq_reg rfl (by simp [c7, c8, c8M]; rfl) ?_
   refine ee_seq_ret ?_
   obtain rfl := Option.some.inj hr
   simp [FinQ, c7, c8, c8M, c8N]
 ·skip
  rw [if_pos c7] at hr
  refine ee_seq_condT (by simp [bV, c7]) ?_
  refine ee_assoc ?_
  refine ee_seq_reg rfl (by simp [c7]; rfl) ?_
  refine ee_seq_ret ?_
  obtain rfl := Option.some.inj hr
  simp [FinQ, c7]
def kp36 : Keep := fun i => if i = 2 then ⟨[0, 1, 10, 11], [], []⟩ else ⟨[], [], []⟩
theorem w36 {T : Tab} (a0 : (List (Arr 32))) (a1 : (List (Arr 32))) (x : Int) (hr : Lfilterchain_differ_of_api_Hash a0 a1 = some x) : ∃ kp fl n, execFn tt T G kp fl n Tryd.f36 (E36 (a0, a1)) = some (R36 (a0, a1) x) := by
 simp only [E36, R36]
 refine fnE (kp := kp36) (w := false) body36 (by simp) ?_
 unfold c36
 rw [Tryd.ntmps36]
 unfold Lfilterchain_differ_of_api_Hash at hr
 refine ee_seq_reg rfl (by simp []; rfl) ?_
 refine ee_assoc ?_
 refine ee_seq_reg rfl (by simp []; rfl) ?_
 refine ee_seq_block ?_
 refine ee_loop (kq := ⟨[0, 1, 10, 11], [], []⟩) (H := fun (s : Int) => match s with | p8 => (⟨([.one (.slice .no (List.map (arC .u8) a0)), .one (.slice .no (List.map (arC .u8) a1))] ++ (und 8 ++ ([.one (.v (.int .i64 (if (a0.length : Int) < (a1.length : Int) then (a1.length : Int) else (a0.length : Int)))), .one (.v (.int .i64 p8))] ++ (und 25))) : List PV), ([] : Boxes)⟩ : ASt)) (by kernel_rfl) hr (by simp [und, List.replicate, ]) ?_
 rintro p8 x26r hr26
 simp only [Lfilterchain_differ_of_api_Hash_s1] at hr26
 unfold b36_1
 simp only [und, List.replicate, List.cons_append, List.nil_append]
 refine ee_seq_reg rfl (by simp []; rfl) ?_
 by_cases c27 : p8 < (if (a0.length : Int) < (a1.length : Int) then (a1.length : Int) else (a0.length : Int))
 ·skip
  have c27N := c27
  try simp at c27N
  first | have c27M : (_ = _) = True := eq_true c27N | have c27M := c27N
  rw [if_pos] at hr26
  rotate_left
  ·simp [c27, c27M]
  refine ee_seq_condT (by simp [bV, c27, c27M]) ?_
  refine ee_seq_skip ?_
  refine ee_seq_block ?_
  refine ee_seq_reg rfl (by simp [c27, c27M]; rfl) ?_
  by_cases c28 : (a0.length : Int) ≤ p8
  ·skip
   have c28N := c28
   try simp at c28N
   first | have c28M : (_ = _) = True := eq_true c28N | have c28M := c28N
   rw [if_pos] at hr26
   rotate_left
   ·simp [c27, c27M, c28, c28M]
   obtain ⟨z29, hz29, hr26⟩ := bs hr26
   obtain rfl := Option.some.inj hz29
   refine ee_seq_draw rfl (by simp [c27, c27M, c28, c28M]; first | exact ⟨rfl, rfl⟩ | rfl) (by kernel_rfl) ?_
   rw [if_pos] at hr26
   rotate_left
   ·simp [c27, c27M, c28, c28M]
   refine ee_condT (by simp [bV, c27, c27M, c28, c28M]) ?_
   refine ee_seq_reg rfl (by simp [c27, c27M, c28, c28M]; rfl) ?_
   refine ee_ret ?_
   obtain rfl := Option.some.inj hr26
   simp only [pq, reduceCtorEq]
   rintro rfl
   simp [FinQ, c27, c27M, c28, c28M, c27N, c28N]
  ·skip
   have c28N := c28
   try simp at c28N
   first | have c28M : (_ = _) = True := eq_true c28N | have c28M := c28N
   by_cases c30 : (a1.length : Int) ≤ p8
   ·skip
    have c30N := c30
    try simp at c30N
    first | have c30M : (_ = _) = True := eq_true c30N | have c30M := c30N
    rw [if_pos] at hr26
    rotate_left
    ·simp [c27, c27M, c28, c28M, c30, c30M]
    obtain ⟨z31, hz31, hr26⟩ := bs hr26
    obtain rfl := Option.some.inj hz31
    refine ee_seq_draw rfl (by simp [c27, c27M, c28, c28M, c30, c30M]; first | exact ⟨rfl, rfl⟩ | rfl) (by kernel_rfl) ?_
    rw [if_pos] at hr26
    rotate_left
    ·simp [c27, c27M, c28, c28M, c30, c30M]
    refine ee_condT (by simp [bV, c27, c27M, c28, c28M, c30, c30M]) ?_
    refine ee_seq_reg rfl (by simp [c27, c27M, c28, c28M, c30, c30M]; rfl) ?_
    refine ee_ret ?_
    obtain rfl := Option.some.inj hr26
    simp only [pq, reduceCtorEq]
    rintro rfl
    simp [FinQ, c27, c27M, c28, c28M, c30, c30M, c27N, c28N, c30N]
   ·skip
    have c30N := c30
    try simp at c30N
    first | have c30M : (_ = _) = True := eq_true c30N | have c30M := c30N
    rw [if_neg] at hr26
    rotate_left
    ·simp [c27, c27M, c28, c28M, c30, c30M]
    obtain ⟨z32, hz32, hr26⟩ := bs hr26
    obtain ⟨x33, hx33, hz32⟩ := bs hz32
    obtain ⟨hx33a, hx33b⟩ := idx_some hx33
    have hx33c := getE_of hx33b
    obtain ⟨x34, hx34, hz32⟩ := bs hz32
    obtain ⟨hx34a, hx34b⟩ := idx_some hx34
    have hx34c := getE_of hx34b
    obtain rfl := Option.some.inj hz32
    refine ee_seq_draw rfl (by simp [hx33a, hx33b, hx33c, hx34a, hx34b, hx34c, c27, c27M, c28, c28M, c30, c30M]; first | exact ⟨rfl, rfl⟩ | rfl) (by kernel_rfl) ?_
    by_cases c35 : x33 = x34
    ·skip
     rw [if_neg] at hr26
     rotate_left
     ·simp [c27, c27M, c28, c28M, c30, c30M, eq_true c35]
     refine ee_condF (by simp [bV, c27, c27M, c28, c28M, c30, c30M, eq_true c35]) ?_
     refine ee_skip ?_
     simp only [pq, reduceCtorEq]
     refine ee_reg rfl (by simp [c27, c27M, c28, c28M, c30, c30M, eq_true c35]; rfl) ?_
     obtain rfl := Option.some.inj hr26
     simp only [pq, reduceCtorEq]
     simp [und, List.replicate, Nat.add_assoc, c27, c27M, c28, c28M, c30, c30M, eq_true c35]
    ·skip
     rw [if_pos] at hr26
     rotate_left
     ·simp [c27, c27M, c28, c28M, c30, c30M, c35]
     refine ee_condT (by simp [bV, c27, c27M, c28, c28M, c30, c30M, c35]) ?_
     refine ee_seq_reg rfl (by simp [c27, c27M, c28, c28M, c30, c30M, c35]; rfl) ?_
     refine ee_ret ?_
     obtain rfl := Option.some.inj hr26
     simp only [pq, reduceCtorEq]
     rintro rfl
     simp [FinQ, c27, c27M, c28, c28M, c30, c30M, c35, c27N, c28N, c30N]
 ·skip
  have c27N := c27
  try simp at c27N
  first | have c27M : (_ = _) = True := eq_true c27N | have c27M := c27N
  rw [if_neg] at hr26
  rotate_left
  ·simp [c27, c27M]
  refine ee_seq_condF (by simp [bV, c27, c27M]) ?_
  refine ee_seq_exit ?_
  obtain ⟨r36, q36, rfl⟩ := ms hr26
  simp only [pq, reduceCtorEq]
  rintro rfl
  try simp only [pq, reduceCtorEq]
  unfold Lfilterchain_differ_of_api_Hash_k1 at q36
  refine ee_seq_reg rfl (by simp [c27, c27M]; rfl) ?_
  refine ee_ret ?_
  obtain rfl := Option.some.inj q36
  simp [FinQ, c27, c27M, c27N]
def kp21 : Keep := fun i => ⟨[], [], []⟩
theorem w21 {T : Tab} (hO : T.own = fun _ => []) (hT36 : T 36 = some G36) (a0 : (List (Arr 32))) (a1 : (List (Arr 32))) (x : Int) (hr : Lfilterchain_Differ a0 a1 = some x) : ∃ kp fl n, execFn tt T G kp fl n Tryd.f21 (E21 (a0, a1)) = some (R21 (a0, a1) x) := by
 simp only [E21, R21]
 refine fnE (kp := kp21) (w := false) body21 (by simp) ?_
 unfold c21
 rw [Tryd.ntmps21]
 unfold Lfilterchain_Differ at hr
 refine ee_seq_reg rfl (by simp []; rfl) ?_
 obtain ⟨y2, hy2, hr⟩ := bs hr
 have ehy2 := G36_eq hy2
 simp only [E36, R36, nf, nfs] at ehy2
 refine ee_seq_reg rfl (by simp [hO, hT36, ehy2]; rfl) ?_
 refine ee_ret ?_
 obtain rfl := Option.some.inj hr
 simp [FinQ, hO, hT36, ehy2]
def kp8 : Keep := fun i => ⟨[], [], []⟩
theorem w8 {T : Tab} (hO : T.own = fun _ => []) (hT11 : T 11 = some G11) (hT21 : T 21 = some G21) (hT31 : T 31 = some G31) (x : Bool) (hr : Llaw21_sane  = some x) : ∃ kp fl n, execFn tt T G kp fl n Tryd.f8 (E8 ()) = some (R8 () x) := by
 simp only [E8, R8]
 refine fnE (kp := kp8) (w := false) body8 (by simp) ?_
 unfold c8
 rw [Tryd.ntmps8]
 unfold Llaw21_sane at hr
 refine ee_seq_reg rfl (by simp []; rfl) ?_
 have ap6 := arC_put (k := .u8) (zA 32) (i := 0) (by decide) (1)
 have ap7 := arC_put (k := .u8) (zA 32) (i := 0) (by decide) (2)
 refine ee_seq_reg rfl (by simp [ap6, ap7]; rfl) ?_
 obtain ⟨y8, hy8, hr⟩ := bs hr
 have ehy8 := G11_eq hy8
 simp only [E11, R11, nf, nfs] at ehy8
 refine ee_seq_reg rfl (by simp [hO, hT11, ehy8]; rfl) ?_
 obtain ⟨y9, hy9, hr⟩ := bs hr
 have ehy9 := G21_eq hy9
 simp only [E21, R21, nf, nfs] at ehy9
 by_cases c10 : y9 = 1
 ·skip
  by_cases c11 : y8.2 = 0
  ·skip
   by_cases c12 : (y8.1.2.length : Int) = 1
   ·skip
    have c12N := c12
    try simp at c12N
    rw [if_pos] at hr
    rotate_left
    ·simp [eq_true c10, eq_true c11, eq_true c12, eq_true c12N]
    obtain ⟨z13, hz13, hr⟩ := bs hr
    obtain ⟨x14, hx14, hz13⟩ := bs hz13
    have hx14c := getE_of hx14
    obtain ⟨y15, hy15, hz13⟩ := bs hz13
    have ehy15 := G31_eq hy15
    simp only [E31, R31, nf, nfs] at ehy15
    obtain rfl := Option.some.inj hz13
    refine ee_seq_draw rfl (by simp [List.range, List.range.loop, hO, hT21, ehy9, hx14, hx14c, hT31, ehy15, eq_true c10, eq_true c11, eq_true c12, eq_true c12N]; first | exact ⟨rfl, rfl⟩ | rfl) (by kernel_rfl) ?_
    refine ee_ret ?_
    obtain rfl := Option.some.inj hr
    simp [FinQ, List.range, List.range.loop, hO, hT21, ehy9, hx14, hx14c, hT31, ehy15, eq_true c10, eq_true c11, eq_true c12, eq_true c12N]
   ·skip
    have c12N := c12
    try simp at c12N
    first | have c12M : (_ = _) = True := eq_true c12N | have c12M := c12N
    rw [if_neg] at hr
    rotate_left
    ·simp [eq_true c10, eq_true c11, c12, c12M]
    obtain ⟨z16, hz16, hr⟩ := bs hr
    obtain rfl := Option.some.inj hz16
    refine ee_seq_draw rfl (by simp [List.range, List.range.loop, hO, hT21, ehy9, eq_true c10, eq_true c11, c12, c12M]; first | exact ⟨rfl, rfl⟩ | rfl) (by kernel_rfl) ?_
    refine ee_ret ?_
    obtain rfl := Option.some.inj hr
    simp [FinQ, List.range, List.range.loop, hO, hT21, ehy9, eq_true c10, eq_true c11, c12, c12M, c12N]
  ·skip
   rw [if_neg] at hr
   rotate_left
   ·simp [eq_true c10, c11]
   obtain ⟨z17, hz17, hr⟩ := bs hr
   obtain rfl := Option.some.inj hz17
   refine ee_seq_draw rfl (by simp [List.range, List.range.loop, hO, hT21, ehy9, eq_true c10, c11]; first | exact ⟨rfl, rfl⟩ | rfl) (by kernel_rfl) ?_
   refine ee_ret ?_
   obtain rfl := Option.some.inj hr
   simp [FinQ, List.range, List.range.loop, hO, hT21, ehy9, eq_true c10, c11]
 ·skip
  rw [if_neg] at hr
  rotate_left
  ·simp [c10]
  obtain ⟨z18, hz18, hr⟩ := bs hr
  obtain rfl := Option.some.inj hz18
  refine ee_seq_draw rfl (by simp [List.range, List.range.loop, hO, hT21, ehy9, c10]; first | exact ⟨rfl, rfl⟩ | rfl) (by kernel_rfl) ?_
  refine ee_ret ?_
  obtain rfl := Option.some.inj hr
  simp [FinQ, List.range, List.range.loop, hO, hT21, ehy9, c10]
def kp9 : Keep := fun i => ⟨[], [], []⟩
theorem w9 {T : Tab} (a0 : Tapi_FilterChain) (x : Bool) (hr : Llaw21_kept a0 = some x) : ∃ kp fl n, execFn tt T G kp fl n Tryd.f9 (E9 a0) = some (R9 a0 x) := by
 simp only [E9, R9]
 refine fnE (kp := kp9) (w := false) body9 (by simp) ?_
 unfold c9
 rw [Tryd.ntmps9]
 unfold Llaw21_kept at hr
 refine ee_seq_reg rfl (by simp []; rfl) ?_
 by_cases c1 : (a0.1.length : Int) ≤ 40
 ·skip
  have c1N := c1
  try simp at c1N
  first | have c1M : (_ = _) = True := eq_true c1N | have c1M := c1N
  refine ee_seq_reg rfl (by simp [c1, c1M]; rfl) ?_
  refine ee_ret ?_
  obtain rfl := Option.some.inj hr
  simp [FinQ, c1, c1M, c1N]
 ·skip
  have c1N := c1
  try simp at c1N
  first | have c1M : (_ = _) = True := eq_true c1N | have c1M := c1N
  refine ee_seq_reg rfl (by simp [c1, c1M]; rfl) ?_
  refine ee_ret ?_
  obtain rfl := Option.some.inj hr
  simp [FinQ, c1, c1M, c1N]
def kp53 : Keep := fun i => ⟨[], [], []⟩
theorem w53 {T : Tab} (a0 : (List Int)) (a1 : (List Int)) (x : (List Int)) (hr : Lcodec_extend a0 a1 = some x) : ∃ kp fl n, execFn tt T G kp fl n Tryd.f53 (E53 (a0, a1)) = some (R53 (a0, a1) x) := by
 simp only [E53, R53]
 refine fnE (kp := kp53) (w := true) body53 (by simp) ?_
 unfold c53
 rw [Tryd.ntmps53]
 unfold Lcodec_extend at hr
 refine ee_seq_reg rfl (by simp []; rfl) ?_
 obtain ⟨_, u4, hr⟩ := bs hr
 obtain ⟨u4_0, u4_1⟩ := chk_some u4
 have mf5 : 0 ≤ (IntKind.i64.wrap ((a0.length : Int) + (a1.length : Int))).toNat := by omega
 have mf6 : (IntKind.i64.wrap ((a0.length : Int) + (a1.length : Int))).toNat ≤ 140737488355328 := by omega
 have mf7 : (IntKind.i64.wrap ((a0.length : Int) + (a1.length : Int))).toNat ≤ 9223372036854775807 := by omega
 have mf8 : 0 ≤ IntKind.i64.wrap ((a0.length : Int) + (a1.length : Int)) := by omega
 refine ee_seq_reg rfl (by simp [u4_0, u4_1, mf5, mf6, mf7, mf8]; rfl) ?_
 obtain ⟨_, u9, hr⟩ := bs hr
 have u9_0 := chk_some u9
 have n1_u9_0 : a0.length ≤ 140737488355328 := by omega
 have n2_u9_0 : a0.length ≤ 9223372036854775807 := by omega
 refine ee_seq_reg rfl (by simp [n1_u9_0, n2_u9_0]; rfl) ?_
 obtain ⟨_, u10, hr⟩ := bs hr
 have u10_0 := chk_some u10
 have n1_u10_0 : a0.length + a1.length ≤ 140737488355328 := by omega
 have n2_u10_0 : a0.length + a1.length ≤ 9223372036854775807 := by omega
 refine ee_seq_reg rfl (by simp [n1_u10_0, n2_u10_0]; rfl) ?_
 refine ee_ret ?_
 obtain rfl := Option.some.inj hr
 simp [FinQ, n1_u10_0, n2_u10_0]
def kp64 : Keep := fun i => if i = 3 then ⟨[0, 5, 9, 10], [8], []⟩ else ⟨[], [], []⟩
theorem w64 {T : Tab} (a0 : Int) (a1 : Int) (x : (List Int)) (hr : Lcodec_lowest a0 a1 = some x) : ∃ kp fl n, execFn tt T G kp fl n Tryd.f64 (E64 (a0, a1)) = some (R64 (a0, a1) x) := by
 simp only [E64, R64]
 refine fnE (kp := kp64) (w := true) body64 (by simp) ?_
 unfold c64
 rw [Tryd.ntmps64]
 unfold Lcodec_lowest at hr
 refine ee_seq_reg rfl (by simp []; rfl) ?_
 obtain ⟨_, u14, hr⟩ := bs hr
 obtain ⟨u14_0, u14_1⟩ := chk_some u14
 have mf15 : (a1).toNat ≤ 140737488355328 := by omega
 have mf16 : (a1).toNat ≤ 9223372036854775807 := by omega
 have mf17 : 0 ≤ a1 := by omega
 refine ee_seq_reg rfl (by simp [u14_0, u14_1, mf15, mf16, mf17]; rfl) ?_
 refine ee_assoc ?_
 refine ee_seq_reg rfl (by simp []; rfl) ?_
 refine ee_seq_block ?_
 refine ee_loop (kq := ⟨[0, 5, 9, 10], [8], []⟩) (H := fun (s : Int × (List Int)) => match s with | (p8, p9) => (⟨([.one (.v (.int .u64 a0))] ++ (und 4 ++ ([.one (.ms 8 0 0 (p9.length) 1)] ++ (und 3 ++ ([.one (.v (.int .i64 a1)), .one (.v (.int .i64 p8))] ++ (und 12))))) : List PV), ([(8, ⟨0, 1, intsR .u8 p9, false, true⟩)] : Boxes)⟩ : ASt)) (by kernel_rfl) hr (by simp [und, List.replicate, ]) ?_
 rintro ⟨p8, p9⟩ x23r hr23
 simp only [Lcodec_lowest_s1] at hr23
 unfold b64_1
 simp only [und, List.replicate, List.cons_append, List.nil_append]
 refine ee_seq_reg rfl (by simp []; rfl) ?_
 by_cases c24 : p8 < a1
 ·skip
  rw [if_pos] at hr23
  rotate_left
  ·simp [c24]
  refine ee_seq_condT (by simp [bV, c24]) ?_
  refine ee_seq_skip ?_
  refine ee_seq_block ?_
  refine ee_seq_reg rfl (by simp [c24]; rfl) ?_
  obtain ⟨_, u25, hr23⟩ := bs hr23
  have u25_0 := chk_some u25
  obtain ⟨j26, hj26, hr23⟩ := bs hr23
  obtain ⟨j26a, j26b, j26c⟩ := inA_some hj26
  refine ee_reg rfl (by simp [u25_0, j26a, j26b, j26c, c24]; rfl) ?_
  simp only [pq, reduceCtorEq]
  refine ee_reg rfl (by simp [c24]; rfl) ?_
  obtain rfl := Option.some.inj hr23
  simp only [pq, reduceCtorEq]
  simp [und, List.replicate, Nat.add_assoc, c24]
 ·skip
  rw [if_neg] at hr23
  rotate_left
  ·simp [c24]
  refine ee_seq_condF (by simp [bV, c24]) ?_
  refine ee_seq_exit ?_
  obtain ⟨r27, q27, rfl⟩ := ms hr23
  simp only [pq, reduceCtorEq]
  rintro rfl
  try simp only [pq, reduceCtorEq]
  unfold Lcodec_lowest_k1 at q27
  refine ee_seq_reg rfl (by simp [c24]; rfl) ?_
  refine ee_ret ?_
  obtain rfl := Option.some.inj q27
  simp [FinQ, c24]
def kp54 : Keep := fun i => ⟨[], [], []⟩
theorem w54 {T : Tab} (hO : T.own = fun _ => []) (hT53 : T 53 = some G53) (hT64 : T 64 = some G64) (a0 : (List Int)) (a1 : Int) (x : (List Int)) (hr : Lcodec_AppendU16 a0 a1 = some x) : ∃ kp fl n, execFn tt T G kp fl n Tryd.f54 (E54 (a0, a1)) = some (R54 (a0, a1) x) := by
 simp only [E54, R54]
 refine fnE (kp := kp54) (w := true) body54 (by simp) ?_
 unfold c54
 rw [Tryd.ntmps54]
 unfold Lcodec_AppendU16 at hr
 refine ee_seq_reg rfl (by simp []; rfl) ?_
 obtain ⟨y3, hy3, hr⟩ := bs hr
 have ehy3 := G64_eq hy3
 simp only [E64, R64, nf, nfs] at ehy3
 obtain ⟨y4, hy4, hr⟩ := bs hr
 have ehy4 := G53_eq hy4
 simp only [E53, R53, nf, nfs] at ehy4
 refine ee_seq_reg rfl (by simp [hO, hT64, ehy3, hT53, ehy4]; rfl) ?_
 refine ee_ret ?_
 obtain rfl := Option.some.inj hr
 simp [FinQ, hO, hT64, ehy3, hT53, ehy4]
def kp55 : Keep := fun i => ⟨[], [], []⟩
theorem w55 {T : Tab} (hO : T.own = fun _ => []) (hT53 : T 53 = some G53) (hT64 : T 64 = some G64) (a0 : (List Int)) (a1 : Int) (x : (List Int)) (hr : Lcodec_AppendU32 a0 a1 = some x) : ∃ kp fl n, execFn tt T G kp fl n Tryd.f55 (E55 (a0, a1)) = some (R55 (a0, a1) x) := by
 simp only [E55, R55]
 refine fnE (kp := kp55) (w := true) body55 (by simp) ?_
 unfold c55
 rw [Tryd.ntmps55]
 unfold Lcodec_AppendU32 at hr
 refine ee_seq_reg rfl (by simp []; rfl) ?_
 obtain ⟨y3, hy3, hr⟩ := bs hr
 have ehy3 := G64_eq hy3
 simp only [E64, R64, nf, nfs] at ehy3
 obtain ⟨y4, hy4, hr⟩ := bs hr
 have ehy4 := G53_eq hy4
 simp only [E53, R53, nf, nfs] at ehy4
 refine ee_seq_reg rfl (by simp [hO, hT64, ehy3, hT53, ehy4]; rfl) ?_
 refine ee_ret ?_
 obtain rfl := Option.some.inj hr
 simp [FinQ, hO, hT64, ehy3, hT53, ehy4]
def kp56 : Keep := fun i => ⟨[], [], []⟩
theorem w56 {T : Tab} (hO : T.own = fun _ => []) (hT53 : T 53 = some G53) (hT64 : T 64 = some G64) (a0 : (List Int)) (a1 : Int) (x : (List Int)) (hr : Lcodec_AppendU64 a0 a1 = some x) : ∃ kp fl n, execFn tt T G kp fl n Tryd.f56 (E56 (a0, a1)) = some (R56 (a0, a1) x) := by
 simp only [E56, R56]
 refine fnE (kp := kp56) (w := true) body56 (by simp) ?_
 unfold c56
 rw [Tryd.ntmps56]
 unfold Lcodec_AppendU64 at hr
 refine ee_seq_reg rfl (by simp []; rfl) ?_
 obtain ⟨y3, hy3, hr⟩ := bs hr
 have ehy3 := G64_eq hy3
 simp only [E64, R64, nf, nfs] at ehy3
 obtain ⟨y4, hy4, hr⟩ := bs hr
 have ehy4 := G53_eq hy4
 simp only [E53, R53, nf, nfs] at ehy4
 refine ee_seq_reg rfl (by simp [hO, hT64, ehy3, hT53, ehy4]; rfl) ?_
 refine ee_ret ?_
 obtain rfl := Option.some.inj hr
 simp [FinQ, hO, hT64, ehy3, hT53, ehy4]
def kp46 : Keep := fun i => ⟨[], [], []⟩
theorem w46 {T : Tab} (hO : T.own = fun _ => []) (hT53 : T 53 = some G53) (hT54 : T 54 = some G54) (hT55 : T 55 = some G55) (hT56 : T 56 = some G56) (a0 : (List Int)) (a1 : Int) (x : (List Int)) (hr : Lcodec_AppendSize a0 a1 = some x) : ∃ kp fl n, execFn tt T G kp fl n Tryd.f46 (E46 (a0, a1)) = some (R46 (a0, a1) x) := by
 simp only [E46, R46]
 refine fnE (kp := kp46) (w := true) body46 (by simp) ?_
 unfold c46
 rw [Tryd.ntmps46]
 unfold Lcodec_AppendSize at hr
 refine ee_seq_reg rfl (by simp []; rfl) ?_
 refine ee_seq_block ?_
 refine ee_seq_reg rfl (by simp []; rfl) ?_
 by_cases c8 : a1 < 253
 ·skip
  rw [if_pos c8] at hr
  refine ee_condT (by simp [bV, c8]) ?_
  obtain ⟨y9, hy9, hr⟩ := bs hr
  have ehy9 := G53_eq hy9
  simp only [E53, R53, nf, nfs] at ehy9
  refine ee_seq_reg rfl (by simp [hO, hT53, ehy9, c8]; rfl) ?_
  refine ee_ret ?_
  obtain rfl := Option.some.inj hr
  simp [FinQ, hO, hT53, ehy9, c8]
 ·skip
  rw [if_neg c8] at hr
  refine ee_condF (by simp [bV, c8]) ?_
  refine ee_seq_reg rfl (by simp [c8]; rfl) ?_
  by_cases c10 : a1 < 65536
  ·skip
   rw [if_pos c10] at hr
   refine ee_condT (by simp [bV, c8, c10]) ?_
   obtain ⟨y11, hy11, hr⟩ := bs hr
   have ehy11 := G53_eq hy11
   simp only [E53, R53, nf, nfs] at ehy11
   obtain ⟨y12, hy12, hr⟩ := bs hr
   have ehy12 := G54_eq hy12
   simp only [E54, R54, nf, nfs] at ehy12
   refine ee_seq_reg rfl (by simp [hO, hT53, ehy11, hT54, ehy12, c8, c10]; rfl) ?_
   refine ee_ret ?_
   obtain rfl := Option.some.inj hr
   simp [FinQ, hO, hT53, ehy11, hT54, ehy12, c8, c10]
  ·skip
   rw [if_neg c10] at hr
   refine ee_condF (by simp [bV, c8, c10]) ?_
   refine ee_seq_reg rfl (by simp [c8, c10]; rfl) ?_
   by_cases c13 : a1 < 4294967296
   ·skip
    rw [if_pos c13] at hr
    refine ee_condT (by simp [bV, c8, c10, c13]) ?_
    obtain ⟨y14, hy14, hr⟩ := bs hr
    have ehy14 := G53_eq hy14
    simp only [E53, R53, nf, nfs] at ehy14
    obtain ⟨y15, hy15, hr⟩ := bs hr
    have ehy15 := G55_eq hy15
    simp only [E55, R55, nf, nfs] at ehy15
    refine ee_seq_reg rfl (by simp [hO, hT53, ehy14, hT55, ehy15, c8, c10, c13]; rfl) ?_
    refine ee_ret ?_
    obtain rfl := Option.some.inj hr
    simp [FinQ, hO, hT53, ehy14, hT55, ehy15, c8, c10, c13]
   ·skip
    rw [if_neg c13] at hr
    refine ee_condF (by simp [bV, c8, c10, c13]) ?_
    refine ee_skip ?_
    simp only [pq, reduceCtorEq]
    obtain ⟨y16, hy16, hr⟩ := bs hr
    have ehy16 := G53_eq hy16
    simp only [E53, R53, nf, nfs] at ehy16
    obtain ⟨y17, hy17, hr⟩ := bs hr
    have ehy17 := G56_eq hy17
    simp only [E56, R56, nf, nfs] at ehy17
    refine ee_seq_reg rfl (by simp [hO, hT53, ehy16, hT56, ehy17, c8, c10, c13]; rfl) ?_
    refine ee_ret ?_
    obtain rfl := Option.some.inj hr
    simp [FinQ, hO, hT53, ehy16, hT56, ehy17, c8, c10, c13]
def kp45 : Keep := fun i => ⟨[], [], []⟩
theorem w45 {T : Tab} (hO : T.own = fun _ => []) (hT46 : T 46 = some G46) (hT53 : T 53 = some G53) (a0 : (List Int)) (a1 : (List Int)) (x : (List Int)) (hr : Lcodec_AppendBytes a0 a1 = some x) : ∃ kp fl n, execFn tt T G kp fl n Tryd.f45 (E45 (a0, a1)) = some (R45 (a0, a1) x) := by
 simp only [E45, R45]
 refine fnE (kp := kp45) (w := true) body45 (by simp) ?_
 unfold c45
 rw [Tryd.ntmps45]
 unfold Lcodec_AppendBytes at hr
 refine ee_seq_reg rfl (by simp []; rfl) ?_
 obtain ⟨y3, hy3, hr⟩ := bs hr
 have ehy3 := G46_eq hy3
 simp only [E46, R46, nf, nfs] at ehy3
 obtain ⟨y4, hy4, hr⟩ := bs hr
 have ehy4 := G53_eq hy4
 simp only [E53, R53, nf, nfs] at ehy4
 refine ee_seq_reg rfl (by simp [hO, hT46, ehy3, hT53, ehy4]; rfl) ?_
 refine ee_ret ?_
 obtain rfl := Option.some.inj hr
 simp [FinQ, hO, hT46, ehy3, hT53, ehy4]
def kp37 : Keep := fun i => ⟨[], [], []⟩
theorem w37 {T : Tab} (hO : T.own = fun _ => []) (hT45 : T 45 = some G45) (hT46 : T 46 = some G46) (a0 : Tapi_Filter) (x : (List Int) × Int) (hr : Lfilter_Encode a0 = some x) : ∃ kp fl n, execFn tt T G kp fl n Tryd.f37 (E37 a0) = some (R37 a0 x) := by
 simp only [E37, R37]
 refine fnE (kp := kp37) (w := false) body37 (by simp) ?_
 unfold c37
 rw [Tryd.ntmps37]
 unfold Lfilter_Encode at hr
 refine ee_seq_reg rfl (by simp []; rfl) ?_
 refine ee_assoc ?_
 by_cases c3 : a0.1 < 0
 ·skip
  refine ee_seq_reg rfl (by simp [c3]; rfl) ?_
  rw [if_pos] at hr
  rotate_left
  ·simp [c3]
  refine ee_seq_condT (by simp [bV, c3]) ?_
  refine ee_assoc ?_
  refine ee_seq_reg rfl (by simp [c3]; rfl) ?_
  refine ee_seq_ret ?_
  obtain rfl := Option.some.inj hr
  simp [FinQ, c3]
 ·skip
  by_cases c4 : 4096 < a0.1
  ·skip
   refine ee_seq_reg rfl (by simp [c3, c4]; rfl) ?_
   rw [if_pos] at hr
   rotate_left
   ·simp [c3, c4]
   refine ee_seq_condT (by simp [bV, c3, c4]) ?_
   refine ee_assoc ?_
   refine ee_seq_reg rfl (by simp [c3, c4]; rfl) ?_
   refine ee_seq_ret ?_
   obtain rfl := Option.some.inj hr
   simp [FinQ, c3, c4]
  ·skip
   refine ee_seq_reg rfl (by simp [c3, c4]; rfl) ?_
   by_cases c5 : 200000 < (a0.2.length : Int)
   ·skip
    have c5N := c5
    try simp at c5N
    first | have c5M : (_ = _) = True := eq_true c5N | have c5M := c5N
    rw [if_pos] at hr
    rotate_left
    ·simp [c3, c4, c5, c5M]
    refine ee_seq_condT (by simp [bV, c3, c4, c5, c5M]) ?_
    refine ee_assoc ?_
    refine ee_seq_reg rfl (by simp [c3, c4, c5, c5M]; rfl) ?_
    refine ee_seq_ret ?_
    obtain rfl := Option.some.inj hr
    simp [FinQ, c3, c4, c5, c5M, c5N]
   ·skip
    have c5N := c5
    try simp at c5N
    first | have c5M : (_ = _) = True := eq_true c5N | have c5M := c5N
    rw [if_neg] at hr
    rotate_left
    ·simp [c3, c4, c5, c5M]
    refine ee_seq_condF (by simp [bV, c3, c4, c5, c5M]) ?_
    refine ee_seq_skip ?_
    obtain ⟨y6, hy6, hr⟩ := bs hr
    have ehy6 := G46_eq hy6
    simp only [E46, R46, nf, nfs] at ehy6
    obtain ⟨y7, hy7, hr⟩ := bs hr
    have ehy7 := G45_eq hy7
    simp only [E45, R45, nf, nfs] at ehy7
    refine ee_seq_draw rfl (by simp [hO, hT46, ehy6, hT45, ehy7, c3, c4, c5, c5M]; first | exact ⟨rfl, rfl⟩ | rfl) (by kernel_rfl) ?_
    refine ee_ret ?_
    obtain rfl := Option.some.inj hr
    simp [FinQ, hO, hT46, ehy6, hT45, ehy7, c3, c4, c5, c5M, c5N]
def kp38 : Keep := fun i => ⟨[], [], []⟩
theorem w38 {T : Tab} (hO : T.own = fun _ => []) (hT37 : T 37 = some G37) (hT41 : T 41 = some G41) (a0 : Tapi_Filter) (x : (Arr 32)) (hr : Lfilter_Hash a0 = some x) : ∃ kp fl n, execFn tt T G kp fl n Tryd.f38 (E38 a0) = some (R38 a0 x) := by
 simp only [E38, R38]
 refine fnE (kp := kp38) (w := false) body38 (by simp) ?_
 unfold c38
 rw [Tryd.ntmps38]
 unfold Lfilter_Hash at hr
 refine ee_seq_reg rfl (by simp []; rfl) ?_
 obtain ⟨y3, hy3, hr⟩ := bs hr
 have ehy3 := G37_eq hy3
 simp only [E37, R37, nf, nfs] at ehy3
 refine ee_seq_reg rfl (by simp [hO, hT37, ehy3]; rfl) ?_
 refine ee_assoc ?_
 refine ee_seq_reg rfl (by simp []; rfl) ?_
 by_cases c4 : y3.2 = 0
 ·skip
  rw [if_neg (not_not_intro c4)] at hr
  refine ee_seq_condF (by simp [bV, eq_true c4]) ?_
  refine ee_seq_skip ?_
  obtain ⟨y5, hy5, hr⟩ := bs hr
  have ehy5 := G41_eq hy5
  simp only [E41, R41, nf, nfs] at ehy5
  refine ee_seq_reg rfl (by simp [hO, hT41, ehy5, eq_true c4]; rfl) ?_
  refine ee_ret ?_
  obtain rfl := Option.some.inj hr
  simp [FinQ, hO, hT41, ehy5, eq_true c4]
 ·skip
  rw [if_pos c4] at hr
  refine ee_seq_condT (by simp [bV, c4]) ?_
  refine ee_assoc ?_
  refine ee_seq_reg rfl (by simp [c4]; rfl) ?_
  refine ee_seq_ret ?_
  obtain rfl := Option.some.inj hr
  simp [FinQ, c4]
def kp29 : Keep := fun i => ⟨[], [], []⟩
theorem w29 {T : Tab} (hO : T.own = fun _ => []) (hT13 : T 13 = some G13) (hT31 : T 31 = some G31) (hT33 : T 33 = some G33) (hT37 : T 37 = some G37) (hT38 : T 38 = some G38) (a0 : Tapi_FilterChain) (a1 : Int) (a2 : Tapi_Filter) (x : Int) (hr : Lfilterchain_Verify a0 a1 a2 = some x) : ∃ kp fl n, execFn tt T G kp fl n Tryd.f29 (E29 (a0, a1, a2)) = some (R29 (a0, a1, a2) x) := by
 simp only [E29, R29]
 refine fnE (kp := kp29) (w := false) body29 (by simp) ?_
 unfold c29
 rw [Tryd.ntmps29]
 unfold Lfilterchain_Verify at hr
 refine ee_seq_reg rfl (by simp []; rfl) ?_
 refine ee_assoc ?_
 obtain ⟨y7, hy7, hr⟩ := bs hr
 have ehy7 := G13_eq hy7
 simp only [E13, R13, nf, nfs] at ehy7
 refine ee_seq_reg rfl (by simp [hO, hT13, ehy7]; rfl) ?_
 by_cases c8 : y7 = true
 ·skip
  rw [if_neg (not_not_intro c8)] at hr
  refine ee_seq_condF (by simp [bV, c8]) ?_
  refine ee_seq_skip ?_
  refine ee_assoc ?_
  by_cases c9 : a1 < 0
  ·skip
   refine ee_seq_reg rfl (by simp [c8, c9]; rfl) ?_
   rw [if_pos] at hr
   rotate_left
   ·simp [c8, c9]
   refine ee_seq_condT (by simp [bV, c8, c9]) ?_
   refine ee_assoc ?_
   refine ee_seq_reg rfl (by simp [c8, c9]; rfl) ?_
   refine ee_seq_ret ?_
   obtain rfl := Option.some.inj hr
   simp [FinQ, c8, c9]
  ·skip
   refine ee_seq_reg rfl (by simp [c8, c9]; rfl) ?_
   by_cases c10 : (a0.2.length : Int) ≤ a1
   ·skip
    have c10N := c10
    try simp at c10N
    first | have c10M : (_ = _) = True := eq_true c10N | have c10M := c10N
    rw [if_pos] at hr
    rotate_left
    ·simp [c8, c9, c10, c10M]
    refine ee_seq_condT (by simp [bV, c8, c9, c10, c10M]) ?_
    refine ee_assoc ?_
    refine ee_seq_reg rfl (by simp [c8, c9, c10, c10M]; rfl) ?_
    refine ee_seq_ret ?_
    obtain rfl := Option.some.inj hr
    simp [FinQ, c8, c9, c10, c10M, c10N]
   ·skip
    have c10N := c10
    try simp at c10N
    first | have c10M : (_ = _) = True := eq_true c10N | have c10M := c10N
    rw [if_neg] at hr
    rotate_left
    ·simp [c8, c9, c10, c10M]
    refine ee_seq_condF (by simp [bV, c8, c9, c10, c10M]) ?_
    refine ee_seq_skip ?_
    refine ee_assoc ?_
    obtain ⟨y11, hy11, hr⟩ := bs hr
    have ehy11 := G37_eq hy11
    simp only [E37, R37, nf, nfs] at ehy11
    refine ee_seq_reg rfl (by simp [hO, hT37, ehy11, c8, c9, c10, c10M]; rfl) ?_
    refine ee_assoc ?_
    refine ee_seq_reg rfl (by simp [c8, c9, c10, c10M]; rfl) ?_
    by_cases c12 : y11.2 = 0
    ·skip
     rw [if_neg (not_not_intro c12)] at hr
     refine ee_seq_condF (by simp [bV, c8, c9, c10, c10M, eq_true c12]) ?_
     refine ee_seq_skip ?_
     refine ee_assoc ?_
     obtain ⟨y13, hy13, hr⟩ := bs hr
     have ehy13 := G38_eq hy13
     simp only [E38, R38, nf, nfs] at ehy13
     obtain ⟨y14, hy14, hr⟩ := bs hr
     have ehy14 := G33_eq hy14
     simp only [E33, R33, nf, nfs] at ehy14
     obtain ⟨y15, hy15, hr⟩ := bs hr
     have ehy15 := G31_eq hy15
     simp only [E31, R31, nf, nfs] at ehy15
     obtain ⟨x16, hx16, hr⟩ := bs hr
     obtain ⟨hx16a, hx16b⟩ := idx_some hx16
     have hx16c := getE_of hx16b
     refine ee_seq_draw rfl (by simp [hO, hT38, ehy13, hT33, ehy14, hT31, ehy15, hx16a, hx16b, hx16c, c8, c9, c10, c10M, eq_true c12]; first | exact ⟨rfl, rfl⟩ | rfl) (by kernel_rfl) ?_
     by_cases c17 : y15 = x16
     ·skip
      rw [if_neg (not_not_intro c17)] at hr
      refine ee_seq_condF (by simp [bV, c8, c9, c10, c10M, eq_true c12, eq_true c17]) ?_
      refine ee_seq_skip ?_
      refine ee_seq_reg rfl (by simp [c8, c9, c10, c10M, eq_true c12, eq_true c17]; rfl) ?_
      refine ee_ret ?_
      obtain rfl := Option.some.inj hr
      simp [FinQ, c8, c9, c10, c10M, eq_true c12, eq_true c17, c10N]
     ·skip
      rw [if_pos c17] at hr
      refine ee_seq_condT (by simp [bV, c8, c9, c10, c10M, eq_true c12, c17]) ?_
      refine ee_assoc ?_
      refine ee_seq_reg rfl (by simp [c8, c9, c10, c10M, eq_true c12, c17]; rfl) ?_
      refine ee_seq_ret ?_
      obtain rfl := Option.some.inj hr
      simp [FinQ, c8, c9, c10, c10M, eq_true c12, c17, c10N]
    ·skip
     rw [if_pos c12] at hr
     refine ee_seq_condT (by simp [bV, c8, c9, c10, c10M, c12]) ?_
     refine ee_assoc ?_
     refine ee_seq_reg rfl (by simp [c8, c9, c10, c10M, c12]; rfl) ?_
     refine ee_seq_ret ?_
     obtain rfl := Option.some.inj hr
     simp [FinQ, c8, c9, c10, c10M, c12, c10N]
 ·skip
  rw [if_pos c8] at hr
  refine ee_seq_condT (by simp [bV, c8]) ?_
  refine ee_assoc ?_
  refine ee_seq_reg rfl (by simp [c8]; rfl) ?_
  refine ee_seq_ret ?_
  obtain rfl := Option.some.inj hr
  simp [FinQ, c8]
def kp14 : Keep := fun i => ⟨[], [], []⟩
theorem w14 {T : Tab} (a0 : Tapi_FilterChain) (x : Bool) (hr : Lref21_Sound a0 = some x) : ∃ kp fl n, execFn tt T G kp fl n Tryd.f14 (E14 a0) = some (R14 a0 x) := by
 simp only [E14, R14]
 refine fnE (kp := kp14) (w := false) body14 (by simp) ?_
 unfold c14
 rw [Tryd.ntmps14]
 unfold Lref21_Sound at hr
 refine ee_seq_reg rfl (by simp []; rfl) ?_
 by_cases c1 : (a0.1.length : Int) = (a0.2.length : Int)
 ·skip
  have c1N := c1
  try simp at c1N
  refine ee_seq_reg rfl (by simp [eq_true c1, eq_true c1N]; rfl) ?_
  refine ee_ret ?_
  obtain rfl := Option.some.inj hr
  simp [FinQ, eq_true c1, eq_true c1N]
 ·skip
  have c1N := c1
  try simp at c1N
  first | have c1M : (_ = _) = True := eq_true c1N | have c1M := c1N
  refine ee_seq_reg rfl (by simp [c1, c1M]; rfl) ?_
  refine ee_ret ?_
  obtain rfl := Option.some.inj hr
  simp [FinQ, c1, c1M, c1N]
end Go.Proofs.YtipochhfofhofaaDoor
