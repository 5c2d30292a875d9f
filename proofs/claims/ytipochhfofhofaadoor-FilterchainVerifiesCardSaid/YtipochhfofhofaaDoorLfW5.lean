import Derived.Test.YtipochhfofhofaaDoorLfK
import Derived.Test.YtipochhfofhofaaDoorCode
namespace Go.Proofs.YtipochhfofhofaaDoor
open Go.RowKit
open Go.Av
open Go.Lc
set_option maxRecDepth 100000
set_option linter.unusedSimpArgs false
set_option linter.unusedVariables false
set_option maxHeartbeats 4000000
def kp63 : Keep := fun i => if i = 4 then ⟨[2, 4, 5, 6, 7, 8, 9, 10, 11, 12, 13, 14, 15], [2, 4, 5, 6], []⟩ else ⟨[], [], []⟩
theorem w63 {T : Tab} (hO : T.own = fun _ => []) (hT67 : T 67 = some G67) (hT68 : T 68 = some G68) (hT69 : T 69 = some G69) (a0 : (Arr 8)) (a1 : (Arr 64)) (x : (Arr 8)) (hr : Lref03_Compress a0 a1 = some x) : ∃ kp fl n, execFn tt T G kp fl n Tryd.f63 (E63 (a0, a1)) = some (R63 (a0, a1) x) := by
 simp only [E63, R63]
 refine fnE (kp := kp63) (w := false) body63 (by simp) ?_
 unfold c63
 rw [Tryd.ntmps63]
 unfold Lref03_Compress at hr
 refine ee_seq_reg rfl (by simp []; rfl) ?_
 obtain ⟨y48, hy48, hr⟩ := bs hr
 have ehy48 := G67_eq hy48
 simp only [E67, R67, nf, nfs] at ehy48
 obtain ⟨y49, hy49, hr⟩ := bs hr
 have ehy49 := G68_eq hy49
 simp only [E68, R68, nf, nfs] at ehy49
 refine ee_seq_reg rfl (by simp [hO, hT67, ehy48, hT68, ehy49]; rfl) ?_
 have ar50 := arC_get (k := .u32) (a0) (i := 0) (by decide)
 have as51 := arC_sub (k := .u32) (a0) (i := 0) (by decide)
 have ar52 := arC_get (k := .u32) (a0) (i := 1) (by decide)
 have as53 := arC_sub (k := .u32) (a0) (i := 1) (by decide)
 have ar54 := arC_get (k := .u32) (a0) (i := 2) (by decide)
 have as55 := arC_sub (k := .u32) (a0) (i := 2) (by decide)
 have ar56 := arC_get (k := .u32) (a0) (i := 3) (by decide)
 have as57 := arC_sub (k := .u32) (a0) (i := 3) (by decide)
 have ar58 := arC_get (k := .u32) (a0) (i := 4) (by decide)
 have as59 := arC_sub (k := .u32) (a0) (i := 4) (by decide)
 have ar60 := arC_get (k := .u32) (a0) (i := 5) (by decide)
 have as61 := arC_sub (k := .u32) (a0) (i := 5) (by decide)
 have ar62 := arC_get (k := .u32) (a0) (i := 6) (by decide)
 have as63 := arC_sub (k := .u32) (a0) (i := 6) (by decide)
 have ar64 := arC_get (k := .u32) (a0) (i := 7) (by decide)
 have as65 := arC_sub (k := .u32) (a0) (i := 7) (by decide)
 refine ee_seq_draw rfl (by simp [ar50, as51, ar52, as53, ar54, as55, ar56, as57, ar58, as59, ar60, as61, ar62, as63, ar64, as65]; first | exact ⟨rfl, rfl⟩ | rfl) (by kernel_rfl) ?_
 refine ee_assoc ?_
 refine ee_seq_reg rfl (by simp []; rfl) ?_
 refine ee_seq_block ?_
 refine ee_loop (kq := ⟨[2, 4, 5, 6, 7, 8, 9, 10, 11, 12, 13, 14, 15], [2, 4, 5, 6], []⟩) (H := fun (s : Int × Int × Int × Int × Int × Int × Int × Int × Int) => match s with | (p25, p26, p27, p28, p29, p30, p31, p32, p33) => (⟨(und 2 ++ ([.ptr 2 0 0 0 8] ++ (und 1 ++ ([.ptr 4 0 0 0 8, .ptr 5 0 0 0 64, .ptr 6 0 0 0 64, .one (.v (.int .u32 p25)), .one (.v (.int .u32 p26)), .one (.v (.int .u32 p27)), .one (.v (.int .u32 p28)), .one (.v (.int .u32 p29)), .one (.v (.int .u32 p30)), .one (.v (.int .u32 p31)), .one (.v (.int .u32 p32)), .one (.v (.int .i64 p33))] ++ (und 117)))) : List PV), ([(2, ⟨0, 8, [arC .u32 a0], false, false⟩), (4, ⟨0, 8, [arC .u32 (zA 8)], false, false⟩), (5, ⟨0, 64, [arC .u32 y48], false, false⟩), (6, ⟨0, 64, [arC .u32 y49], false, false⟩)] : Boxes)⟩ : ASt)) (by kernel_rfl) hr (by simp [und, List.replicate, ]) ?_
 rintro ⟨p25, p26, p27, p28, p29, p30, p31, p32, p33⟩ x80r hr80
 simp only [Lref03_Compress_s1] at hr80
 unfold b63_1
 simp only [und, List.replicate, List.cons_append, List.nil_append]
 refine ee_assoc ?_
 refine ee_seq_reg rfl (by simp []; rfl) ?_
 by_cases c81 : p33 < 64
 ·skip
  rw [if_pos] at hr80
  rotate_left
  ·simp [c81]
  refine ee_seq_condT (by simp [bV, c81]) ?_
  refine ee_seq_skip ?_
  refine ee_seq_block ?_
  obtain ⟨y82, hy82, hr80⟩ := bs hr80
  have ehy82 := G69_eq hy82
  simp only [E69, R69, nf, nfs] at ehy82
  obtain ⟨y83, hy83, hr80⟩ := bs hr80
  have ehy83 := G69_eq hy83
  simp only [E69, R69, nf, nfs] at ehy83
  obtain ⟨y84, hy84, hr80⟩ := bs hr80
  have ehy84 := G69_eq hy84
  simp only [E69, R69, nf, nfs] at ehy84
  obtain ⟨j85, hj85, hr80⟩ := bs hr80
  obtain ⟨j85a, j85b, j85c⟩ := inA_some hj85
  have j85d : j85 ≤ 63 := by omega
  have ar86 := arC_get (k := .u32) (y49) (i := j85) j85c
  have as87 := arC_sub (k := .u32) (y49) (i := j85) j85c
  obtain ⟨j85a, j85b, j85c⟩ := inA_some hj85
  have j85d : j85 ≤ 63 := by omega
  have ar88 := arC_get (k := .u32) (y48) (i := j85) j85c
  have as89 := arC_sub (k := .u32) (y48) (i := j85) j85c
  refine ee_seq_draw rfl (by simp [hO, hT69, ehy82, ehy83, ehy84, j85a, j85b, j85c, j85d, ar86, as87, ar88, as89, c81]; first | exact ⟨rfl, rfl⟩ | rfl) (by kernel_rfl) ?_
  obtain ⟨y90, hy90, hr80⟩ := bs hr80
  have ehy90 := G69_eq hy90
  simp only [E69, R69, nf, nfs] at ehy90
  obtain ⟨y91, hy91, hr80⟩ := bs hr80
  have ehy91 := G69_eq hy91
  simp only [E69, R69, nf, nfs] at ehy91
  obtain ⟨y92, hy92, hr80⟩ := bs hr80
  have ehy92 := G69_eq hy92
  simp only [E69, R69, nf, nfs] at ehy92
  refine ee_seq_reg rfl (by simp [hO, hT69, ehy90, ehy91, ehy92, c81]; rfl) ?_
  refine ee_reg rfl (by simp [c81]; rfl) ?_
  simp only [pq, reduceCtorEq]
  refine ee_reg rfl (by simp [c81]; rfl) ?_
  obtain rfl := Option.some.inj hr80
  simp only [pq, reduceCtorEq]
  simp [und, List.replicate, Nat.add_assoc, c81]
 ·skip
  rw [if_neg] at hr80
  rotate_left
  ·simp [c81]
  refine ee_seq_condF (by simp [bV, c81]) ?_
  refine ee_seq_exit ?_
  obtain ⟨r93, q93, rfl⟩ := ms hr80
  simp only [pq, reduceCtorEq]
  rintro rfl
  try simp only [pq, reduceCtorEq]
  unfold Lref03_Compress_k1 at q93
  have ar94 := arC_get (k := .u32) (a0) (i := 0) (by decide)
  have as95 := arC_sub (k := .u32) (a0) (i := 0) (by decide)
  have ar96 := arC_get (k := .u32) (a0) (i := 1) (by decide)
  have as97 := arC_sub (k := .u32) (a0) (i := 1) (by decide)
  have ar98 := arC_get (k := .u32) (a0) (i := 2) (by decide)
  have as99 := arC_sub (k := .u32) (a0) (i := 2) (by decide)
  have ar100 := arC_get (k := .u32) (a0) (i := 3) (by decide)
  have as101 := arC_sub (k := .u32) (a0) (i := 3) (by decide)
  have ar102 := arC_get (k := .u32) (a0) (i := 4) (by decide)
  have as103 := arC_sub (k := .u32) (a0) (i := 4) (by decide)
  have ar104 := arC_get (k := .u32) (a0) (i := 5) (by decide)
  have as105 := arC_sub (k := .u32) (a0) (i := 5) (by decide)
  have ar106 := arC_get (k := .u32) (a0) (i := 6) (by decide)
  have as107 := arC_sub (k := .u32) (a0) (i := 6) (by decide)
  have ar108 := arC_get (k := .u32) (a0) (i := 7) (by decide)
  have as109 := arC_sub (k := .u32) (a0) (i := 7) (by decide)
  have ap110 := arC_put (k := .u32) (zA 8) (i := 0) (by decide) (IntKind.u32.wrap ((a0.at 0) + p25))
  have ap111 := arC_put (k := .u32) ((zA 8).put 0 (IntKind.u32.wrap ((a0.at 0) + p25))) (i := 1) (by decide) (IntKind.u32.wrap ((a0.at 1) + p26))
  have ap112 := arC_put (k := .u32) (((zA 8).put 0 (IntKind.u32.wrap ((a0.at 0) + p25))).put 1 (IntKind.u32.wrap ((a0.at 1) + p26))) (i := 2) (by decide) (IntKind.u32.wrap ((a0.at 2) + p27))
  have ap113 := arC_put (k := .u32) ((((zA 8).put 0 (IntKind.u32.wrap ((a0.at 0) + p25))).put 1 (IntKind.u32.wrap ((a0.at 1) + p26))).put 2 (IntKind.u32.wrap ((a0.at 2) + p27))) (i := 3) (by decide) (IntKind.u32.wrap ((a0.at 3) + p28))
  have ap114 := arC_put (k := .u32) (((((zA 8).put 0 (IntKind.u32.wrap ((a0.at 0) + p25))).put 1 (IntKind.u32.wrap ((a0.at 1) + p26))).put 2 (IntKind.u32.wrap ((a0.at 2) + p27))).put 3 (IntKind.u32.wrap ((a0.at 3) + p28))) (i := 4) (by decide) (IntKind.u32.wrap ((a0.at 4) + p29))
  have ap115 := arC_put (k := .u32) ((((((zA 8).put 0 (IntKind.u32.wrap ((a0.at 0) + p25))).put 1 (IntKind.u32.wrap ((a0.at 1) + p26))).put 2 (IntKind.u32.wrap ((a0.at 2) + p27))).put 3 (IntKind.u32.wrap ((a0.at 3) + p28))).put 4 (IntKind.u32.wrap ((a0.at 4) + p29))) (i := 5) (by decide) (IntKind.u32.wrap ((a0.at 5) + p30))
  have ap116 := arC_put (k := .u32) (((((((zA 8).put 0 (IntKind.u32.wrap ((a0.at 0) + p25))).put 1 (IntKind.u32.wrap ((a0.at 1) + p26))).put 2 (IntKind.u32.wrap ((a0.at 2) + p27))).put 3 (IntKind.u32.wrap ((a0.at 3) + p28))).put 4 (IntKind.u32.wrap ((a0.at 4) + p29))).put 5 (IntKind.u32.wrap ((a0.at 5) + p30))) (i := 6) (by decide) (IntKind.u32.wrap ((a0.at 6) + p31))
  have ap117 := arC_put (k := .u32) ((((((((zA 8).put 0 (IntKind.u32.wrap ((a0.at 0) + p25))).put 1 (IntKind.u32.wrap ((a0.at 1) + p26))).put 2 (IntKind.u32.wrap ((a0.at 2) + p27))).put 3 (IntKind.u32.wrap ((a0.at 3) + p28))).put 4 (IntKind.u32.wrap ((a0.at 4) + p29))).put 5 (IntKind.u32.wrap ((a0.at 5) + p30))).put 6 (IntKind.u32.wrap ((a0.at 6) + p31))) (i := 7) (by decide) (IntKind.u32.wrap ((a0.at 7) + p32))
  refine ee_seq_reg rfl (by simp [ar94, as95, ar96, as97, ar98, as99, ar100, as101, ar102, as103, ar104, as105, ar106, as107, ar108, as109, ap110, ap111, ap112, ap113, ap114, ap115, ap116, ap117, c81]; rfl) ?_
  refine ee_ret ?_
  obtain rfl := Option.some.inj q93
  simp [FinQ, ar94, as95, ar96, as97, ar98, as99, ar100, as101, ar102, as103, ar104, as105, ar106, as107, ar108, as109, ap110, ap111, ap112, ap113, ap114, ap115, ap116, ap117, c81]
def kp51 : Keep := fun i => if i = 4 then ⟨[2, 3, 4, 5], [2, 4, 11], []⟩ else if i = 11 then ⟨[2, 7, 33, 34], [2, 7], []⟩ else ⟨[], [], []⟩
theorem w51 {T : Tab} (hO : T.own = fun _ => []) (hT61 : T 61 = some G61) (hT62 : T 62 = some G62) (hT63 : T 63 = some G63) (a0 : (List Int)) (x : (Arr 32)) (hr : Lref03_Sum a0 = some x) : ∃ kp fl n, execFn tt T G kp fl n Tryd.f51 (E51 a0) = some (R51 a0 x) := by
 simp only [E51, R51]
 refine fnE (kp := kp51) (w := false) body51 (by simp) ?_
 unfold c51
 rw [Tryd.ntmps51]
 unfold Lref03_Sum at hr
 refine ee_seq_reg rfl (by simp [-intsR_app, -List.take_append, -List.drop_append, ]; rfl) ?_
 obtain ⟨_, u40, hr⟩ := bs hr
 have u40_0 := chk_some u40
 have n1_u40_0 : a0.length ≤ 140737488355328 := by omega
 have n2_u40_0 : a0.length ≤ 9223372036854775807 := by omega
 obtain ⟨y41, hy41, hr⟩ := bs hr
 have ehy41 := G61_eq hy41
 simp only [E61, R61, nf, nfs] at ehy41
 obtain ⟨_, u42, hr⟩ := bs hr
 have u42_0 := chk_some u42
 have n1_u42_0 : a0.length + y41.length ≤ 140737488355328 := by omega
 have n2_u42_0 : a0.length + y41.length ≤ 9223372036854775807 := by omega
 refine ee_seq_reg rfl (by simp [-intsR_app, -List.take_append, -List.drop_append, n1_u40_0, n2_u40_0, hO, hT61, ehy41, n1_u42_0, n2_u42_0]; rfl) ?_
 obtain ⟨y43, hy43, hr⟩ := bs hr
 have ehy43 := G62_eq hy43
 simp only [E62, R62, nf, nfs] at ehy43
 refine ee_seq_reg rfl (by simp [-intsR_app, -List.take_append, -List.drop_append, hO, hT62, ehy43]; rfl) ?_
 refine ee_assoc ?_
 refine ee_seq_reg rfl (by simp [-intsR_app, -List.take_append, -List.drop_append, ]; rfl) ?_
 refine ee_seq_block ?_
 refine ee_loop (kq := ⟨[2, 3, 4, 5], [2, 4, 11], []⟩) (H := fun (s : Int × (Arr 8)) => match s with | (p11, p12) => (⟨(und 2 ++ ([.ptr 2 0 0 0 32, .one (.ms 11 0 0 (a0.length + y41.length) 1), .ptr 4 0 0 0 8, .one (.v (.int .i64 p11))] ++ (und 60)) : List PV), ([(2, ⟨0, 32, [arC .u8 (zA 32)], false, false⟩), (4, ⟨0, 8, [arC .u32 p12], false, false⟩), (11, ⟨0, 1, intsR .u8 (a0 ++ y41), false, true⟩)] : Boxes)⟩ : ASt)) (by kernel_rfl) hr (by simp [und, List.replicate, ]) ?_
 rintro ⟨p11, p12⟩ x52r hr52
 simp only [Lref03_Sum_s1] at hr52
 unfold b51_1
 simp only [und, List.replicate, List.cons_append, List.nil_append]
 refine ee_assoc ?_
 refine ee_seq_reg rfl (by simp [-intsR_app, -List.take_append, -List.drop_append, ]; rfl) ?_
 by_cases c53 : IntKind.i64.wrap (p11 + 64) ≤ (a0.length + y41.length : Int)
 ·skip
  have c53N := c53
  try simp at c53N
  first | have c53M : (_ = _) = True := eq_true c53N | have c53M := c53N
  rw [if_pos] at hr52
  rotate_left
  ·simp [c53, c53M]
  refine ee_seq_condT (by simp [bV, c53, c53M]) ?_
  refine ee_seq_skip ?_
  refine ee_seq_block ?_
  refine ee_seq_reg rfl (by simp [-intsR_app, -List.take_append, -List.drop_append, c53, c53M]; rfl) ?_
  obtain ⟨_, u54, hr52⟩ := bs hr52
  obtain ⟨u54_0, u54_1⟩ := chk_some u54
  have lu54_1 : p11 ≤ ((a0.length + y41.length : Nat) : Int) := by
   have h := u54_1
   try simp at h
   omega
  try simp only [Int.natCast_add] at lu54_1
  have sf55 : (p11).toNat ≤ (a0 ++ y41).length := by omega
  have sf56 : (p11).toNat ≤ a0.length + y41.length := by omega
  have al57 := eq_true (fun l h => intsR_all l (List.mem_of_mem_drop h) : ∀ l, l ∈ List.drop ((p11).toNat) (intsR .u8 (a0 ++ y41)) → l.length = 1)
  have ov57 := over_put (k := .u8) (a := zA 64) (l := (a0 ++ y41).drop (p11).toNat)
  try simp only [intsR_nil, intsR_cons, intsR_tk, intsR_dr, intsR_st, intsR_rep, List.length_drop, List.length_append] at ov57
  refine ee_seq_draw rfl (by simp [-intsR_app, -List.take_append, -List.drop_append, u54_0, u54_1, lu54_1, sf55, sf56, al57, ov57, c53, c53M]; first | exact ⟨rfl, rfl⟩ | rfl) (by kernel_rfl) ?_
  obtain ⟨y58, hy58, hr52⟩ := bs hr52
  have ehy58 := G63_eq hy58
  simp only [E63, R63, nf, nfs] at ehy58
  refine ee_reg rfl (by simp [-intsR_app, -List.take_append, -List.drop_append, hO, hT63, ehy58, c53, c53M]; rfl) ?_
  simp only [pq, reduceCtorEq]
  refine ee_reg rfl (by simp [-intsR_app, -List.take_append, -List.drop_append, c53, c53M]; rfl) ?_
  obtain rfl := Option.some.inj hr52
  simp only [pq, reduceCtorEq]
  simp [und, List.replicate, Nat.add_assoc, c53, c53M]
 ·skip
  have c53N := c53
  try simp at c53N
  first | have c53M : (_ = _) = True := eq_true c53N | have c53M := c53N
  rw [if_neg] at hr52
  rotate_left
  ·simp [c53, c53M]
  refine ee_seq_condF (by simp [bV, c53, c53M]) ?_
  refine ee_seq_exit ?_
  obtain ⟨r59, q59, rfl⟩ := ms hr52
  simp only [pq, reduceCtorEq]
  rintro rfl
  try simp only [pq, reduceCtorEq]
  unfold Lref03_Sum_k1 at q59
  refine ee_seq_reg rfl (by simp [-intsR_app, -List.take_append, -List.drop_append, c53, c53M]; rfl) ?_
  refine ee_assoc ?_
  refine ee_seq_reg rfl (by simp [-intsR_app, -List.take_append, -List.drop_append, c53, c53M]; rfl) ?_
  refine ee_seq_block ?_
  refine ee_loop (kq := ⟨[2, 7, 33, 34], [2, 7], []⟩) (H := fun (s : Int × (Arr 32)) => match s with | (p26, p27) => (⟨(und 2 ++ ([.ptr 2 0 0 0 32] ++ (und 4 ++ ([.ptr 7 0 0 0 32] ++ (und 25 ++ ([.agg (arC .u32 p12), .one (.v (.int .i64 p26))] ++ (und 31)))))) : List PV), ([(2, ⟨0, 32, [arC .u8 (zA 32)], false, false⟩), (7, ⟨0, 32, [arC .u8 p27], false, false⟩)] : Boxes)⟩ : ASt)) (by kernel_rfl) q59 (by simp [und, List.replicate, c53, c53M]) ?_
  rintro ⟨p26, p27⟩ x74r hr74
  simp only [Lref03_Sum_s2] at hr74
  unfold b51_2
  simp only [und, List.replicate, List.cons_append, List.nil_append]
  refine ee_seq_reg rfl (by simp [-intsR_app, -List.take_append, -List.drop_append, c53, c53M]; rfl) ?_
  by_cases c75 : p26 < 8
  ·skip
   rw [if_pos] at hr74
   rotate_left
   ·simp [c53, c53M, c75]
   refine ee_seq_condT (by simp [bV, c53, c53M, c75]) ?_
   refine ee_seq_skip ?_
   refine ee_seq_block ?_
   obtain ⟨j76, hj76, hr74⟩ := bs hr74
   obtain ⟨j76a, j76b, j76c⟩ := inA_some hj76
   have j76d : j76 ≤ 7 := by omega
   have ar77 := arC_get (k := .u32) (p12) (i := j76) j76c
   have as78 := arC_sub (k := .u32) (p12) (i := j76) j76c
   refine ee_seq_reg rfl (by simp [-intsR_app, -List.take_append, -List.drop_append, j76a, j76b, j76c, j76d, ar77, as78, c53, c53M, c75]; rfl) ?_
   obtain ⟨j79, hj79, hr74⟩ := bs hr74
   obtain ⟨j79a, j79b, j79c⟩ := inA_some hj79
   have j79d : j79 ≤ 31 := by omega
   have ap80 := arC_put (k := .u8) (p27) (i := j79) j79c (IntKind.u8.wrap ((p12.at j76).fdiv 16777216))
   obtain ⟨j81, hj81, hr74⟩ := bs hr74
   obtain ⟨j81a, j81b, j81c⟩ := inA_some hj81
   have j81d : j81 ≤ 31 := by omega
   have ap82 := arC_put (k := .u8) (p27.put j79 (IntKind.u8.wrap ((p12.at j76).fdiv 16777216))) (i := j81) j81c (IntKind.u8.wrap ((p12.at j76).fdiv 65536))
   obtain ⟨j83, hj83, hr74⟩ := bs hr74
   obtain ⟨j83a, j83b, j83c⟩ := inA_some hj83
   have j83d : j83 ≤ 31 := by omega
   have ap84 := arC_put (k := .u8) ((p27.put j79 (IntKind.u8.wrap ((p12.at j76).fdiv 16777216))).put j81 (IntKind.u8.wrap ((p12.at j76).fdiv 65536))) (i := j83) j83c (IntKind.u8.wrap ((p12.at j76).fdiv 256))
   obtain ⟨j85, hj85, hr74⟩ := bs hr74
   obtain ⟨j85a, j85b, j85c⟩ := inA_some hj85
   have j85d : j85 ≤ 31 := by omega
   have ap86 := arC_put (k := .u8) (((p27.put j79 (IntKind.u8.wrap ((p12.at j76).fdiv 16777216))).put j81 (IntKind.u8.wrap ((p12.at j76).fdiv 65536))).put j83 (IntKind.u8.wrap ((p12.at j76).fdiv 256))) (i := j85) j85c (IntKind.u8.wrap (p12.at j76))
   refine ee_reg rfl (by simp [-intsR_app, -List.take_append, -List.drop_append, j79a, j79b, j79c, j79d, ap80, j81a, j81b, j81c, j81d, ap82, j83a, j83b, j83c, j83d, ap84, j85a, j85b, j85c, j85d, ap86, c53, c53M, c75]; rfl) ?_
   simp only [pq, reduceCtorEq]
   refine ee_reg rfl (by simp [-intsR_app, -List.take_append, -List.drop_append, c53, c53M, c75]; rfl) ?_
   obtain rfl := Option.some.inj hr74
   simp only [pq, reduceCtorEq]
   simp [und, List.replicate, Nat.add_assoc, c53, c53M, c75]
  ·skip
   rw [if_neg] at hr74
   rotate_left
   ·simp [c53, c53M, c75]
   refine ee_seq_condF (by simp [bV, c53, c53M, c75]) ?_
   refine ee_seq_exit ?_
   obtain ⟨r87, q87, rfl⟩ := ms hr74
   simp only [pq, reduceCtorEq]
   rintro rfl
   try simp only [pq, reduceCtorEq]
   unfold Lref03_Sum_k2 at q87
   refine ee_seq_reg rfl (by simp [-intsR_app, -List.take_append, -List.drop_append, c53, c53M, c75]; rfl) ?_
   refine ee_ret ?_
   obtain rfl := Option.some.inj q87
   simp [FinQ, c53, c53M, c75, c53N]
def kp43 : Keep := fun i => ⟨[], [], []⟩
theorem w43 {T : Tab} (hO : T.own = fun _ => []) (hT51 : T 51 = some G51) (a0 : (List Int)) (x : (Arr 32)) (hr : Lref03_Double a0 = some x) : ∃ kp fl n, execFn tt T G kp fl n Tryd.f43 (E43 a0) = some (R43 a0 x) := by
 simp only [E43, R43]
 refine fnE (kp := kp43) (w := false) body43 (by simp) ?_
 unfold c43
 rw [Tryd.ntmps43]
 unfold Lref03_Double at hr
 refine ee_seq_reg rfl (by simp []; rfl) ?_
 obtain ⟨y3, hy3, hr⟩ := bs hr
 have ehy3 := G51_eq hy3
 simp only [E51, R51, nf, nfs] at ehy3
 refine ee_seq_reg rfl (by simp [hO, hT51, ehy3]; rfl) ?_
 obtain ⟨y4, hy4, hr⟩ := bs hr
 have ehy4 := G51_eq hy4
 simp only [E51, R51, nf, nfs] at ehy4
 refine ee_seq_reg rfl (by simp [hO, hT51, ehy4]; rfl) ?_
 refine ee_ret ?_
 obtain rfl := Option.some.inj hr
 simp [FinQ, hO, hT51, ehy4]
def kp52 : Keep := fun i => ⟨[], [], []⟩
theorem w52 {T : Tab} (a0 : (List Int)) (a1 : (List Int)) (x : (List Int)) (hr : Lref01_joined a0 a1 = some x) : ∃ kp fl n, execFn tt T G kp fl n Tryd.f52 (E52 (a0, a1)) = some (R52 (a0, a1) x) := by
 simp only [E52, R52]
 refine fnE (kp := kp52) (w := true) body52 (by simp) ?_
 unfold c52
 rw [Tryd.ntmps52]
 unfold Lref01_joined at hr
 refine ee_seq_reg rfl (by simp []; rfl) ?_
 obtain ⟨_, u4, hr⟩ := bs hr
 obtain ⟨u4_0, u4_1⟩ := chk_some u4
 have mf5 : 0 ≤ (IntKind.i64.wrap ((a0.length : Int) + (a1.length : Int))).toNat := by omega
 have mf6 : (IntKind.i64.wrap ((a0.length : Int) + (a1.length : Int))).toNat ≤ 140737488355328 := by omega
 have mf7 : (IntKind.i64.wrap ((a0.length : Int) + (a1.length : Int))).toNat ≤ 9223372036854775807 := by omega
 have mf8 : 0 ≤ IntKind.i64.wrap ((a0.length : Int) + (a1.length : Int)) := by omega
 refine ee_seq_reg rfl (by simp [u4_0, u4_1, mf5, mf6, mf7, mf8]; rfl) ?_
 obtain ⟨_, u9, hr⟩ := bs hr
 have u9_0 := chk_some u9
 have n1_u9_0 : a0.length ≤ 140737488355328 := by omega
 have n2_u9_0 : a0.length ≤ 9223372036854775807 := by omega
 obtain ⟨_, u10, hr⟩ := bs hr
 have u10_0 := chk_some u10
 have n1_u10_0 : a0.length + a1.length ≤ 140737488355328 := by omega
 have n2_u10_0 : a0.length + a1.length ≤ 9223372036854775807 := by omega
 refine ee_seq_reg rfl (by simp [n1_u9_0, n2_u9_0, n1_u10_0, n2_u10_0]; rfl) ?_
 refine ee_ret ?_
 obtain rfl := Option.some.inj hr
 simp [FinQ, n1_u9_0, n2_u9_0, n1_u10_0, n2_u10_0]
def kp44 : Keep := fun i => if i = 3 then ⟨[3, 6, 7, 8], [900003], [(3, none, 900003, 0), (3, none, 900003, 1)]⟩ else ⟨[], [], []⟩
theorem w44 {T : Tab} (hO : T.own = fun _ => []) (hT52 : T 52 = some G52) (a0 : (List (List Int))) (x : (List Int)) (hr : Lref01_Join a0 = some x) : ∃ kp fl n, execFn tt T G kp fl n Tryd.f44 (E44 a0) = some (R44 a0 x) := by
 simp only [E44, R44]
 refine fnE (kp := kp44) (w := true) body44 (by simp) ?_
 unfold c44
 rw [Tryd.ntmps44]
 unfold Lref01_Join at hr
 refine ee_seq_reg rfl (by simp []; rfl) ?_
 refine ee_seq_reg rfl (by simp []; rfl) ?_
 refine ee_assoc ?_
 refine ee_seq_reg rfl (by simp []; rfl) ?_
 refine ee_seq_block ?_
 refine ee_loop (kq := ⟨[3, 6, 7, 8], [900003], [(3, none, 900003, 0), (3, none, 900003, 1)]⟩) (H := fun (s : Int × (List Int)) => match s with | (p7, p8) => (⟨(und 3 ++ ([.one (.ms 900003 0 0 (p8.length) 1)] ++ (und 2 ++ ([.one (.slice .no (List.map eS_I_u8 a0)), .one (.v (.int .i64 (a0.length : Int))), .one (.v (.int .i64 p7))] ++ (und 8)))) : List PV), ([(900003, ⟨0, 1, intsR .u8 p8, false, true⟩)] : Boxes)⟩ : ASt)) (by kernel_rfl) hr (by simp [und, List.replicate, ]) ?_
 rintro ⟨p7, p8⟩ x18r hr18
 simp only [Lref01_Join_s1] at hr18
 unfold b44_1
 simp only [und, List.replicate, List.cons_append, List.nil_append]
 refine ee_seq_reg rfl (by simp []; rfl) ?_
 by_cases c19 : p7 < (a0.length : Int)
 ·skip
  have c19N := c19
  try simp at c19N
  first | have c19M : (_ = _) = True := eq_true c19N | have c19M := c19N
  rw [if_pos] at hr18
  rotate_left
  ·simp [c19, c19M]
  refine ee_seq_condT (by simp [bV, c19, c19M]) ?_
  refine ee_seq_skip ?_
  refine ee_seq_block ?_
  obtain ⟨x20, hx20, hr18⟩ := bs hr18
  obtain ⟨hx20a, hx20b⟩ := idx_some hx20
  have hx20c := getE_of hx20b
  refine ee_seq_reg rfl (by simp [hx20a, hx20b, hx20c, c19, c19M]; rfl) ?_
  obtain ⟨y21, hy21, hr18⟩ := bs hr18
  have ehy21 := G52_eq hy21
  simp only [E52, R52, nf, nfs] at ehy21
  refine ee_reg rfl (by simp [hO, hT52, ehy21, c19, c19M]; rfl) ?_
  simp only [pq, reduceCtorEq]
  refine ee_reg rfl (by simp [c19, c19M]; rfl) ?_
  obtain rfl := Option.some.inj hr18
  simp only [pq, reduceCtorEq]
  simp [und, List.replicate, Nat.add_assoc, c19, c19M]
 ·skip
  have c19N := c19
  try simp at c19N
  first | have c19M : (_ = _) = True := eq_true c19N | have c19M := c19N
  rw [if_neg] at hr18
  rotate_left
  ·simp [c19, c19M]
  refine ee_seq_condF (by simp [bV, c19, c19M]) ?_
  refine ee_seq_exit ?_
  obtain ⟨r22, q22, rfl⟩ := ms hr18
  simp only [pq, reduceCtorEq]
  rintro rfl
  try simp only [pq, reduceCtorEq]
  unfold Lref01_Join_k1 at q22
  refine ee_seq_reg rfl (by simp [c19, c19M]; rfl) ?_
  refine ee_ret ?_
  obtain rfl := Option.some.inj q22
  simp [FinQ, c19, c19M, c19N]
def kp35 : Keep := fun i => ⟨[], [], []⟩
theorem w35 {T : Tab} (hO : T.own = fun _ => []) (hT43 : T 43 = some G43) (hT44 : T 44 = some G44) (a0 : (Arr 32)) (a1 : (Arr 32)) (x : (Arr 32)) (hr : Lref20_Header a0 a1 = some x) : ∃ kp fl n, execFn tt T G kp fl n Tryd.f35 (E35 (a0, a1)) = some (R35 (a0, a1) x) := by
 simp only [E35, R35]
 refine fnE (kp := kp35) (w := false) body35 (by simp) ?_
 unfold c35
 rw [Tryd.ntmps35]
 unfold Lref20_Header at hr
 refine ee_seq_reg rfl (by simp []; rfl) ?_
 obtain ⟨y3, hy3, hr⟩ := bs hr
 have ehy3 := G44_eq hy3
 simp only [E44, R44, nf, nfs] at ehy3
 obtain ⟨y4, hy4, hr⟩ := bs hr
 have ehy4 := G43_eq hy4
 simp only [E43, R43, nf, nfs] at ehy4
 refine ee_seq_draw rfl (by simp [List.range, List.range.loop, hO, hT44, ehy3, hT43, ehy4]; first | exact ⟨rfl, rfl⟩ | rfl) (by kernel_rfl) ?_
 refine ee_ret ?_
 obtain rfl := Option.some.inj hr
 simp [FinQ, List.range, List.range.loop, hO, hT44, ehy3, hT43, ehy4]
def kp57 : Keep := fun i => if i = 3 then ⟨[0, 5, 10, 11], [8], []⟩ else ⟨[], [], []⟩
theorem w57 {T : Tab} (a0 : Int) (a1 : Int) (x : (List Int)) (hr : Lref01_little a0 a1 = some x) : ∃ kp fl n, execFn tt T G kp fl n Tryd.f57 (E57 (a0, a1)) = some (R57 (a0, a1) x) := by
 simp only [E57, R57]
 refine fnE (kp := kp57) (w := true) body57 (by simp) ?_
 unfold c57
 rw [Tryd.ntmps57]
 unfold Lref01_little at hr
 refine ee_seq_reg rfl (by simp []; rfl) ?_
 obtain ⟨_, u14, hr⟩ := bs hr
 obtain ⟨u14_0, u14_1⟩ := chk_some u14
 have mf15 : (a1).toNat ≤ 140737488355328 := by omega
 have mf16 : (a1).toNat ≤ 9223372036854775807 := by omega
 have mf17 : 0 ≤ a1 := by omega
 refine ee_seq_reg rfl (by simp [u14_0, u14_1, mf15, mf16, mf17]; rfl) ?_
 refine ee_assoc ?_
 refine ee_seq_reg rfl (by simp []; rfl) ?_
 refine ee_seq_block ?_
 refine ee_loop (kq := ⟨[0, 5, 10, 11], [8], []⟩) (H := fun (s : Int × (List Int)) => match s with | (p8, p9) => (⟨([.one (.v (.int .u64 a0))] ++ (und 4 ++ ([.one (.ms 8 0 0 (p9.length) 1)] ++ (und 4 ++ ([.one (.v (.int .i64 ((List.replicate ((a1).toNat) 0).length : Int))), .one (.v (.int .i64 p8))] ++ (und 12))))) : List PV), ([(8, ⟨0, 1, intsR .u8 p9, false, true⟩)] : Boxes)⟩ : ASt)) (by kernel_rfl) hr (by simp [und, List.replicate, ]) ?_
 rintro ⟨p8, p9⟩ x23r hr23
 simp only [Lref01_little_s1] at hr23
 unfold b57_1
 simp only [und, List.replicate, List.cons_append, List.nil_append]
 refine ee_seq_reg rfl (by simp []; rfl) ?_
 by_cases c24 : p8 < ((List.replicate ((a1).toNat) 0).length : Int)
 ·skip
  have c24N := c24
  try simp at c24N
  first | have c24M : (_ = _) = True := eq_true c24N | have c24M := c24N
  rw [if_pos] at hr23
  rotate_left
  ·simp [c24, c24M]
  refine ee_seq_condT (by simp [bV, c24, c24M]) ?_
  refine ee_seq_skip ?_
  refine ee_seq_block ?_
  refine ee_seq_reg rfl (by simp [c24, c24M]; rfl) ?_
  obtain ⟨_, u25, hr23⟩ := bs hr23
  have u25_0 := chk_some u25
  obtain ⟨j26, hj26, hr23⟩ := bs hr23
  obtain ⟨j26a, j26b, j26c⟩ := inA_some hj26
  refine ee_reg rfl (by simp [u25_0, j26a, j26b, j26c, c24, c24M]; rfl) ?_
  simp only [pq, reduceCtorEq]
  refine ee_reg rfl (by simp [c24, c24M]; rfl) ?_
  obtain rfl := Option.some.inj hr23
  simp only [pq, reduceCtorEq]
  simp [und, List.replicate, Nat.add_assoc, c24, c24M]
 ·skip
  have c24N := c24
  try simp at c24N
  first | have c24M : (_ = _) = True := eq_true c24N | have c24M := c24N
  rw [if_neg] at hr23
  rotate_left
  ·simp [c24, c24M]
  refine ee_seq_condF (by simp [bV, c24, c24M]) ?_
  refine ee_seq_exit ?_
  obtain ⟨r27, q27, rfl⟩ := ms hr23
  simp only [pq, reduceCtorEq]
  rintro rfl
  try simp only [pq, reduceCtorEq]
  unfold Lref01_little_k1 at q27
  refine ee_seq_reg rfl (by simp [c24, c24M]; rfl) ?_
  refine ee_ret ?_
  obtain rfl := Option.some.inj q27
  simp [FinQ, c24, c24M, c24N]
def kp48 : Keep := fun i => ⟨[], [], []⟩
theorem w48 {T : Tab} (hO : T.own = fun _ => []) (hT52 : T 52 = some G52) (hT57 : T 57 = some G57) (a0 : (List Int)) (a1 : Int) (x : (List Int)) (hr : Lref01_AppendSize a0 a1 = some x) : ∃ kp fl n, execFn tt T G kp fl n Tryd.f48 (E48 (a0, a1)) = some (R48 (a0, a1) x) := by
 simp only [E48, R48]
 refine fnE (kp := kp48) (w := true) body48 (by simp) ?_
 unfold c48
 rw [Tryd.ntmps48]
 unfold Lref01_AppendSize at hr
 refine ee_seq_reg rfl (by simp []; rfl) ?_
 refine ee_seq_block ?_
 refine ee_seq_reg rfl (by simp []; rfl) ?_
 by_cases c12 : a1 < 253
 ·skip
  rw [if_pos c12] at hr
  refine ee_condT (by simp [bV, c12]) ?_
  obtain ⟨y13, hy13, hr⟩ := bs hr
  have ehy13 := G57_eq hy13
  simp only [E57, R57, nf, nfs] at ehy13
  obtain ⟨y14, hy14, hr⟩ := bs hr
  have ehy14 := G52_eq hy14
  simp only [E52, R52, nf, nfs] at ehy14
  refine ee_seq_reg rfl (by simp [hO, hT57, ehy13, hT52, ehy14, c12]; rfl) ?_
  refine ee_ret ?_
  obtain rfl := Option.some.inj hr
  simp [FinQ, hO, hT57, ehy13, hT52, ehy14, c12]
 ·skip
  rw [if_neg c12] at hr
  refine ee_condF (by simp [bV, c12]) ?_
  refine ee_seq_reg rfl (by simp [c12]; rfl) ?_
  by_cases c15 : a1 < 65536
  ·skip
   rw [if_pos c15] at hr
   refine ee_condT (by simp [bV, c12, c15]) ?_
   obtain ⟨y16, hy16, hr⟩ := bs hr
   have ehy16 := G57_eq hy16
   simp only [E57, R57, nf, nfs] at ehy16
   obtain ⟨y17, hy17, hr⟩ := bs hr
   have ehy17 := G52_eq hy17
   simp only [E52, R52, nf, nfs] at ehy17
   obtain ⟨y18, hy18, hr⟩ := bs hr
   have ehy18 := G52_eq hy18
   simp only [E52, R52, nf, nfs] at ehy18
   refine ee_seq_reg rfl (by simp [hO, hT57, ehy16, hT52, ehy17, ehy18, c12, c15]; rfl) ?_
   refine ee_ret ?_
   obtain rfl := Option.some.inj hr
   simp [FinQ, hO, hT57, ehy16, hT52, ehy17, ehy18, c12, c15]
  ·skip
   rw [if_neg c15] at hr
   refine ee_condF (by simp [bV, c12, c15]) ?_
   refine ee_seq_reg rfl (by simp [c12, c15]; rfl) ?_
   by_cases c19 : a1 < 4294967296
   ·skip
    rw [if_pos c19] at hr
    refine ee_condT (by simp [bV, c12, c15, c19]) ?_
    obtain ⟨y20, hy20, hr⟩ := bs hr
    have ehy20 := G57_eq hy20
    simp only [E57, R57, nf, nfs] at ehy20
    obtain ⟨y21, hy21, hr⟩ := bs hr
    have ehy21 := G52_eq hy21
    simp only [E52, R52, nf, nfs] at ehy21
    obtain ⟨y22, hy22, hr⟩ := bs hr
    have ehy22 := G52_eq hy22
    simp only [E52, R52, nf, nfs] at ehy22
    refine ee_seq_reg rfl (by simp [hO, hT57, ehy20, hT52, ehy21, ehy22, c12, c15, c19]; rfl) ?_
    refine ee_ret ?_
    obtain rfl := Option.some.inj hr
    simp [FinQ, hO, hT57, ehy20, hT52, ehy21, ehy22, c12, c15, c19]
   ·skip
    rw [if_neg c19] at hr
    refine ee_condF (by simp [bV, c12, c15, c19]) ?_
    refine ee_skip ?_
    simp only [pq, reduceCtorEq]
    obtain ⟨y23, hy23, hr⟩ := bs hr
    have ehy23 := G57_eq hy23
    simp only [E57, R57, nf, nfs] at ehy23
    obtain ⟨y24, hy24, hr⟩ := bs hr
    have ehy24 := G52_eq hy24
    simp only [E52, R52, nf, nfs] at ehy24
    obtain ⟨y25, hy25, hr⟩ := bs hr
    have ehy25 := G52_eq hy25
    simp only [E52, R52, nf, nfs] at ehy25
    refine ee_seq_reg rfl (by simp [hO, hT57, ehy23, hT52, ehy24, ehy25, c12, c15, c19]; rfl) ?_
    refine ee_ret ?_
    obtain rfl := Option.some.inj hr
    simp [FinQ, hO, hT57, ehy23, hT52, ehy24, ehy25, c12, c15, c19]
def kp47 : Keep := fun i => ⟨[], [], []⟩
theorem w47 {T : Tab} (hO : T.own = fun _ => []) (hT48 : T 48 = some G48) (hT52 : T 52 = some G52) (a0 : (List Int)) (a1 : (List Int)) (x : (List Int)) (hr : Lref01_AppendBytes a0 a1 = some x) : ∃ kp fl n, execFn tt T G kp fl n Tryd.f47 (E47 (a0, a1)) = some (R47 (a0, a1) x) := by
 simp only [E47, R47]
 refine fnE (kp := kp47) (w := true) body47 (by simp) ?_
 unfold c47
 rw [Tryd.ntmps47]
 unfold Lref01_AppendBytes at hr
 refine ee_seq_reg rfl (by simp []; rfl) ?_
 obtain ⟨y3, hy3, hr⟩ := bs hr
 have ehy3 := G48_eq hy3
 simp only [E48, R48, nf, nfs] at ehy3
 obtain ⟨y4, hy4, hr⟩ := bs hr
 have ehy4 := G52_eq hy4
 simp only [E52, R52, nf, nfs] at ehy4
 refine ee_seq_reg rfl (by simp [hO, hT48, ehy3, hT52, ehy4]; rfl) ?_
 refine ee_ret ?_
 obtain rfl := Option.some.inj hr
 simp [FinQ, hO, hT48, ehy3, hT52, ehy4]
def kp39 : Keep := fun i => ⟨[], [], []⟩
theorem w39 {T : Tab} (hO : T.own = fun _ => []) (hT47 : T 47 = some G47) (hT48 : T 48 = some G48) (a0 : Tapi_Filter) (x : (List Int) × Int) (hr : Lref20_Encode a0 = some x) : ∃ kp fl n, execFn tt T G kp fl n Tryd.f39 (E39 a0) = some (R39 a0 x) := by
 simp only [E39, R39]
 refine fnE (kp := kp39) (w := false) body39 (by simp) ?_
 unfold c39
 rw [Tryd.ntmps39]
 unfold Lref20_Encode at hr
 refine ee_seq_reg rfl (by simp []; rfl) ?_
 refine ee_assoc ?_
 by_cases c3 : a0.1 < 0
 ·skip
  refine ee_seq_reg rfl (by simp [c3]; rfl) ?_
  rw [if_pos] at hr
  rotate_left
  ·simp [c3]
  refine ee_seq_condT (by simp [bV, c3]) ?_
  refine ee_assoc ?_
  refine ee_seq_reg rfl (by simp [c3]; rfl) ?_
  refine ee_seq_ret ?_
  obtain rfl := Option.some.inj hr
  simp [FinQ, c3]
 ·skip
  by_cases c4 : 4096 < a0.1
  ·skip
   refine ee_seq_reg rfl (by simp [c3, c4]; rfl) ?_
   rw [if_pos] at hr
   rotate_left
   ·simp [c3, c4]
   refine ee_seq_condT (by simp [bV, c3, c4]) ?_
   refine ee_assoc ?_
   refine ee_seq_reg rfl (by simp [c3, c4]; rfl) ?_
   refine ee_seq_ret ?_
   obtain rfl := Option.some.inj hr
   simp [FinQ, c3, c4]
  ·skip
   refine ee_seq_reg rfl (by simp [c3, c4]; rfl) ?_
   by_cases c5 : 200000 < (a0.2.length : Int)
   ·skip
    have c5N := c5
    try simp at c5N
    first | have c5M : (_ = _) = True := eq_true c5N | have c5M := c5N
    rw [if_pos] at hr
    rotate_left
    ·simp [c3, c4, c5, c5M]
    refine ee_seq_condT (by simp [bV, c3, c4, c5, c5M]) ?_
    refine ee_assoc ?_
    refine ee_seq_reg rfl (by simp [c3, c4, c5, c5M]; rfl) ?_
    refine ee_seq_ret ?_
    obtain rfl := Option.some.inj hr
    simp [FinQ, c3, c4, c5, c5M, c5N]
   ·skip
    have c5N := c5
    try simp at c5N
    first | have c5M : (_ = _) = True := eq_true c5N | have c5M := c5N
    rw [if_neg] at hr
    rotate_left
    ·simp [c3, c4, c5, c5M]
    refine ee_seq_condF (by simp [bV, c3, c4, c5, c5M]) ?_
    refine ee_seq_skip ?_
    obtain ⟨y6, hy6, hr⟩ := bs hr
    have ehy6 := G48_eq hy6
    simp only [E48, R48, nf, nfs] at ehy6
    obtain ⟨y7, hy7, hr⟩ := bs hr
    have ehy7 := G47_eq hy7
    simp only [E47, R47, nf, nfs] at ehy7
    refine ee_seq_draw rfl (by simp [hO, hT48, ehy6, hT47, ehy7, c3, c4, c5, c5M]; first | exact ⟨rfl, rfl⟩ | rfl) (by kernel_rfl) ?_
    refine ee_ret ?_
    obtain rfl := Option.some.inj hr
    simp [FinQ, hO, hT48, ehy6, hT47, ehy7, c3, c4, c5, c5M, c5N]
def kp40 : Keep := fun i => ⟨[], [], []⟩
theorem w40 {T : Tab} (hO : T.own = fun _ => []) (hT39 : T 39 = some G39) (hT43 : T 43 = some G43) (a0 : Tapi_Filter) (x : (Arr 32)) (hr : Lref20_Hash a0 = some x) : ∃ kp fl n, execFn tt T G kp fl n Tryd.f40 (E40 a0) = some (R40 a0 x) := by
 simp only [E40, R40]
 refine fnE (kp := kp40) (w := false) body40 (by simp) ?_
 unfold c40
 rw [Tryd.ntmps40]
 unfold Lref20_Hash at hr
 refine ee_seq_reg rfl (by simp []; rfl) ?_
 obtain ⟨y3, hy3, hr⟩ := bs hr
 have ehy3 := G39_eq hy3
 simp only [E39, R39, nf, nfs] at ehy3
 refine ee_seq_reg rfl (by simp [hO, hT39, ehy3]; rfl) ?_
 refine ee_assoc ?_
 refine ee_seq_reg rfl (by simp []; rfl) ?_
 by_cases c4 : y3.2 = 0
 ·skip
  rw [if_neg (not_not_intro c4)] at hr
  refine ee_seq_condF (by simp [bV, eq_true c4]) ?_
  refine ee_seq_skip ?_
  obtain ⟨y5, hy5, hr⟩ := bs hr
  have ehy5 := G43_eq hy5
  simp only [E43, R43, nf, nfs] at ehy5
  refine ee_seq_reg rfl (by simp [hO, hT43, ehy5, eq_true c4]; rfl) ?_
  refine ee_ret ?_
  obtain rfl := Option.some.inj hr
  simp [FinQ, hO, hT43, ehy5, eq_true c4]
 ·skip
  rw [if_pos c4] at hr
  refine ee_seq_condT (by simp [bV, c4]) ?_
  refine ee_assoc ?_
  refine ee_seq_reg rfl (by simp [c4]; rfl) ?_
  refine ee_seq_ret ?_
  obtain rfl := Option.some.inj hr
  simp [FinQ, c4]
def kp30 : Keep := fun i => if i = 1000011 then ⟨[1, 3, 5, 9], [3, 5, 9], []⟩ else ⟨[], [], []⟩
theorem w30 {T : Tab} (hO : T.own = fun _ => []) (hT14 : T 14 = some G14) (hT35 : T 35 = some G35) (hT39 : T 39 = some G39) (hT40 : T 40 = some G40) (a0 : Tapi_FilterChain) (a1 : Int) (a2 : Tapi_Filter) (x : Int) (hr : Lref21_Verify a0 a1 a2 = some x) : ∃ kp fl n, execFn tt T G kp fl n Tryd.f30 (E30 (a0, a1, a2)) = some (R30 (a0, a1, a2) x) := by
 simp only [E30, R30]
 refine fnE (kp := kp30) (w := false) body30 (by simp) ?_
 unfold c30
 rw [Tryd.ntmps30]
 unfold Lref21_Verify at hr
 refine ee_seq_reg rfl (by simp []; rfl) ?_
 refine ee_assoc ?_
 obtain ⟨y9, hy9, hr⟩ := bs hr
 have ehy9 := G14_eq hy9
 simp only [E14, R14, nf, nfs] at ehy9
 refine ee_seq_reg rfl (by simp [hO, hT14, ehy9]; rfl) ?_
 by_cases c10 : y9 = true
 ·skip
  rw [if_neg (not_not_intro c10)] at hr
  refine ee_seq_condF (by simp [bV, c10]) ?_
  refine ee_seq_skip ?_
  refine ee_assoc ?_
  by_cases c11 : a1 < 0
  ·skip
   refine ee_seq_reg rfl (by simp [c10, c11]; rfl) ?_
   rw [if_pos] at hr
   rotate_left
   ·simp [c10, c11]
   refine ee_seq_condT (by simp [bV, c10, c11]) ?_
   refine ee_assoc ?_
   refine ee_seq_reg rfl (by simp [c10, c11]; rfl) ?_
   refine ee_seq_ret ?_
   obtain rfl := Option.some.inj hr
   simp [FinQ, c10, c11]
  ·skip
   refine ee_seq_reg rfl (by simp [c10, c11]; rfl) ?_
   by_cases c12 : (a0.2.length : Int) ≤ a1
   ·skip
    have c12N := c12
    try simp at c12N
    first | have c12M : (_ = _) = True := eq_true c12N | have c12M := c12N
    rw [if_pos] at hr
    rotate_left
    ·simp [c10, c11, c12, c12M]
    refine ee_seq_condT (by simp [bV, c10, c11, c12, c12M]) ?_
    refine ee_assoc ?_
    refine ee_seq_reg rfl (by simp [c10, c11, c12, c12M]; rfl) ?_
    refine ee_seq_ret ?_
    obtain rfl := Option.some.inj hr
    simp [FinQ, c10, c11, c12, c12M, c12N]
   ·skip
    have c12N := c12
    try simp at c12N
    first | have c12M : (_ = _) = True := eq_true c12N | have c12M := c12N
    rw [if_neg] at hr
    rotate_left
    ·simp [c10, c11, c12, c12M]
    refine ee_seq_condF (by simp [bV, c10, c11, c12, c12M]) ?_
    refine ee_seq_skip ?_
    refine ee_assoc ?_
    obtain ⟨y13, hy13, hr⟩ := bs hr
    have ehy13 := G39_eq hy13
    simp only [E39, R39, nf, nfs] at ehy13
    refine ee_seq_reg rfl (by simp [hO, hT39, ehy13, c10, c11, c12, c12M]; rfl) ?_
    refine ee_assoc ?_
    refine ee_seq_reg rfl (by simp [c10, c11, c12, c12M]; rfl) ?_
    by_cases c14 : y13.2 = 0
    ·skip
     rw [if_neg (not_not_intro c14)] at hr
     refine ee_seq_condF (by simp [bV, c10, c11, c12, c12M, eq_true c14]) ?_
     refine ee_seq_skip ?_
     refine ee_seq_reg rfl (by simp [c10, c11, c12, c12M, eq_true c14]; rfl) ?_
     refine ee_assoc ?_
     refine ee_seq_reg rfl (by simp [c10, c11, c12, c12M, eq_true c14]; rfl) ?_
     refine ee_seq_J hr (fun (s : (Arr 32)) => match s with | p4 => (⟨(und 1 ++ ([.one (.v (.int .i64 a1))] ++ (und 1 ++ ([.ptr 3 0 0 0 2] ++ (und 1 ++ ([.ptr 5 0 0 0 2] ++ (und 3 ++ ([.ptr 9 0 0 0 32] ++ (und 38)))))))) : List PV), ([(3, ⟨0, 2, [[.slice .no (List.map (arC .u8) a0.1), .slice .no (List.map (arC .u8) a0.2)]], false, false⟩), (5, ⟨0, 2, [[.v (.int .i64 a2.1), .slice .no (intsR .u8 a2.2)]], false, false⟩), (9, ⟨0, 32, [arC .u8 p4], false, false⟩)] : Boxes)⟩ : ASt)) (fun (s : (Arr 32)) => match s with | p4 => Lref21_Verify_k1 a2 a0 a1 p4) ?_ ?_
     ·skip
      rintro p4 hk17
      change Lref21_Verify_k1 a2 a0 a1 p4 = _ at hk17
      simp only [und, List.replicate, List.cons_append, List.nil_append]
      unfold Lref21_Verify_k1 at hk17
      refine ee_assoc ?_
      obtain ⟨y18, hy18, hk17⟩ := bs hk17
      have ehy18 := G40_eq hy18
      simp only [E40, R40, nf, nfs] at ehy18
      obtain ⟨y19, hy19, hk17⟩ := bs hk17
      have ehy19 := G35_eq hy19
      simp only [E35, R35, nf, nfs] at ehy19
      obtain ⟨x20, hx20, hk17⟩ := bs hk17
      obtain ⟨hx20a, hx20b⟩ := idx_some hx20
      have hx20c := getE_of hx20b
      refine ee_seq_drawJ rfl (kq := ⟨[1, 3, 5, 9], [3, 5, 9], []⟩) rfl (by simp [joinSt, hO, hT40, ehy18, hT35, ehy19, hx20a, hx20b, hx20c, c10, c11, c12, c12M, eq_true c14]; rfl) (by simp [hO, hT40, ehy18, hT35, ehy19, hx20a, hx20b, hx20c, c10, c11, c12, c12M, eq_true c14]; first | exact ⟨rfl, rfl⟩ | rfl) (by kernel_rfl) ?_
      by_cases c21 : y19 = x20
      ·skip
       rw [if_neg (not_not_intro c21)] at hk17
       refine ee_seq_condF (by simp [bV, c10, c11, c12, c12M, eq_true c14, eq_true c21]) ?_
       refine ee_seq_skip ?_
       refine ee_seq_reg rfl (by simp [c10, c11, c12, c12M, eq_true c14, eq_true c21]; rfl) ?_
       refine ee_ret ?_
       obtain rfl := Option.some.inj hk17
       simp [FinQ, c10, c11, c12, c12M, eq_true c14, eq_true c21, c12N]
      ·skip
       rw [if_pos c21] at hk17
       refine ee_seq_condT (by simp [bV, c10, c11, c12, c12M, eq_true c14, c21]) ?_
       refine ee_assoc ?_
       refine ee_seq_reg rfl (by simp [c10, c11, c12, c12M, eq_true c14, c21]; rfl) ?_
       refine ee_seq_ret ?_
       obtain rfl := Option.some.inj hk17
       simp [FinQ, c10, c11, c12, c12M, eq_true c14, c21, c12N]
     ·skip
      intro J17
      by_cases c22 : 0 < a1
      ·skip
       rw [if_pos c22] at hr
       refine ee_seq_condT (by simp [bV, c10, c11, c12, c12M, eq_true c14, c22]) ?_
       obtain ⟨x23, hx23, hr⟩ := bs hr
       obtain ⟨hx23a, hx23b⟩ := idx_some hx23
       have hx23c := getE_of hx23b
       refine ee_seq_reg rfl (by simp [hx23a, hx23b, hx23c, c10, c11, c12, c12M, eq_true c14, c22]; rfl) ?_
       exact ee_join (key := 1000011) (kq := ⟨[1, 3, 5, 9], [3, 5, 9], []⟩) rfl rfl rfl (by simp [und, List.replicate, c10, c11, c12, c12M, eq_true c14, c22]) (J17 x23 hr)
      ·skip
       rw [if_neg c22] at hr
       refine ee_seq_condF (by simp [bV, c10, c11, c12, c12M, eq_true c14, c22]) ?_
       refine ee_seq_skip ?_
       exact ee_join (key := 1000011) (kq := ⟨[1, 3, 5, 9], [3, 5, 9], []⟩) rfl rfl rfl (by simp [und, List.replicate, c10, c11, c12, c12M, eq_true c14, c22]) (J17 (zA 32) hr)
    ·skip
     rw [if_pos c14] at hr
     refine ee_seq_condT (by simp [bV, c10, c11, c12, c12M, c14]) ?_
     refine ee_assoc ?_
     refine ee_seq_reg rfl (by simp [c10, c11, c12, c12M, c14]; rfl) ?_
     refine ee_seq_ret ?_
     obtain rfl := Option.some.inj hr
     simp [FinQ, c10, c11, c12, c12M, c14, c12N]
 ·skip
  rw [if_pos c10] at hr
  refine ee_seq_condT (by simp [bV, c10]) ?_
  refine ee_assoc ?_
  refine ee_seq_reg rfl (by simp [c10]; rfl) ?_
  refine ee_seq_ret ?_
  obtain rfl := Option.some.inj hr
  simp [FinQ, c10]
end Go.Proofs.YtipochhfofhofaaDoor
