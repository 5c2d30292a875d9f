import Derived.Test.YtconfbgcjkjnkaaDoorLfK
import Derived.Test.YtconfbgcjkjnkaaDoorCode
namespace Go.Proofs.YtconfbgcjkjnkaaDoor
open Go.RowKit
open Go.Av
open Go.Lc
set_option maxRecDepth 100000
set_option linter.unusedSimpArgs false
set_option linter.unusedVariables false
set_option maxHeartbeats 4000000
def kp113 : Keep := fun i => if i = 4 then ⟨[2, 4, 5, 6, 7, 8, 9, 10, 11, 12, 13, 14, 15], [2, 4, 5, 6], []⟩ else ⟨[], [], []⟩
theorem w113 {T : Tab} (hT119 : T 119 = some G119) (hT120 : T 120 = some G120) (hT121 : T 121 = some G121) (a0 : (Arr 8)) (a1 : (Arr 64)) (x : (Arr 8)) (hr : Lref03_Compress a0 a1 = some x) : ∃ kp fl n, execFn tt T G kp fl n Tryd.f113 (E113 (a0, a1)) = some (R113 (a0, a1) x) := by
 simp only [E113, R113]
 refine fnE (kp := kp113) (w := false) body113 ?_
 unfold c113
 rw [Tryd.ntmps113]
 unfold Lref03_Compress at hr
 refine ee_seq_reg rfl (by simp []; rfl) ?_
 obtain ⟨y48, hy48, hr⟩ := bs hr
 have ehy48 := G119_eq hy48
 simp only [E119, R119, nf, nfs] at ehy48
 obtain ⟨y49, hy49, hr⟩ := bs hr
 have ehy49 := G120_eq hy49
 simp only [E120, R120, nf, nfs] at ehy49
 refine ee_seq_reg rfl (by simp [hT119, ehy48, hT120, ehy49]; rfl) ?_
 have ar50 := arC_get (k := .u32) (a0) (i := 0) (by decide)
 have as51 := arC_sub (k := .u32) (a0) (i := 0) (by decide)
 have ar52 := arC_get (k := .u32) (a0) (i := 1) (by decide)
 have as53 := arC_sub (k := .u32) (a0) (i := 1) (by decide)
 have ar54 := arC_get (k := .u32) (a0) (i := 2) (by decide)
 have as55 := arC_sub (k := .u32) (a0) (i := 2) (by decide)
 have ar56 := arC_get (k := .u32) (a0) (i := 3) (by decide)
 have as57 := arC_sub (k := .u32) (a0) (i := 3) (by decide)
 have ar58 := arC_get (k := .u32) (a0) (i := 4) (by decide)
 have as59 := arC_sub (k := .u32) (a0) (i := 4) (by decide)
 have ar60 := arC_get (k := .u32) (a0) (i := 5) (by decide)
 have as61 := arC_sub (k := .u32) (a0) (i := 5) (by decide)
 have ar62 := arC_get (k := .u32) (a0) (i := 6) (by decide)
 have as63 := arC_sub (k := .u32) (a0) (i := 6) (by decide)
 have ar64 := arC_get (k := .u32) (a0) (i := 7) (by decide)
 have as65 := arC_sub (k := .u32) (a0) (i := 7) (by decide)
 refine ee_seq_draw rfl (by simp [ar50, as51, ar52, as53, ar54, as55, ar56, as57, ar58, as59, ar60, as61, ar62, as63, ar64, as65]; first | exact ⟨rfl, rfl⟩ | rfl) (by kernel_rfl) ?_
 refine ee_assoc ?_
 refine ee_seq_reg rfl (by simp []; rfl) ?_
 refine ee_seq_block ?_
 refine ee_loop (kq := ⟨[2, 4, 5, 6, 7, 8, 9, 10, 11, 12, 13, 14, 15], [2, 4, 5, 6], []⟩) (H := fun (s : Int × Int × Int × Int × Int × Int × Int × Int × Int) => match s with | (p25, p26, p27, p28, p29, p30, p31, p32, p33) => (⟨(und 2 ++ ([.ptr 2 0 0 0 8] ++ (und 1 ++ ([.ptr 4 0 0 0 8, .ptr 5 0 0 0 64, .ptr 6 0 0 0 64, .one (.v (.int .u32 p25)), .one (.v (.int .u32 p26)), .one (.v (.int .u32 p27)), .one (.v (.int .u32 p28)), .one (.v (.int .u32 p29)), .one (.v (.int .u32 p30)), .one (.v (.int .u32 p31)), .one (.v (.int .u32 p32)), .one (.v (.int .i64 p33))] ++ (und 117)))) : List PV), ([(2, ⟨0, 8, [arC .u32 a0], false, false⟩), (4, ⟨0, 8, [arC .u32 (zA 8)], false, false⟩), (5, ⟨0, 64, [arC .u32 y48], false, false⟩), (6, ⟨0, 64, [arC .u32 y49], false, false⟩)] : Boxes)⟩ : ASt)) (by kernel_rfl) hr (by simp [und, List.replicate, ]) ?_
 rintro ⟨p25, p26, p27, p28, p29, p30, p31, p32, p33⟩ x66r hr66
 simp only [Lref03_Compress_s1] at hr66
 unfold b113_1
 simp only [und, List.replicate, List.cons_append, List.nil_append]
 refine ee_assoc ?_
 refine ee_seq_reg rfl (by simp []; rfl) ?_
 by_cases c67 : p33 < 64
 ·skip
  rw [if_pos] at hr66
  rotate_left
  ·simp [c67]
  refine ee_seq_condT (by simp [bV, c67]) ?_
  refine ee_seq_skip ?_
  refine ee_seq_block ?_
  obtain ⟨y68, hy68, hr66⟩ := bs hr66
  have ehy68 := G121_eq hy68
  simp only [E121, R121, nf, nfs] at ehy68
  obtain ⟨y69, hy69, hr66⟩ := bs hr66
  have ehy69 := G121_eq hy69
  simp only [E121, R121, nf, nfs] at ehy69
  obtain ⟨y70, hy70, hr66⟩ := bs hr66
  have ehy70 := G121_eq hy70
  simp only [E121, R121, nf, nfs] at ehy70
  obtain ⟨j71, hj71, hr66⟩ := bs hr66
  obtain ⟨j71a, j71b, j71c⟩ := inA_some hj71
  have j71d : j71 ≤ 63 := by omega
  have ar72 := arC_get (k := .u32) (y49) (i := j71) j71c
  have as73 := arC_sub (k := .u32) (y49) (i := j71) j71c
  obtain ⟨j71a, j71b, j71c⟩ := inA_some hj71
  have j71d : j71 ≤ 63 := by omega
  have ar74 := arC_get (k := .u32) (y48) (i := j71) j71c
  have as75 := arC_sub (k := .u32) (y48) (i := j71) j71c
  refine ee_seq_draw rfl (by simp [hT121, ehy68, ehy69, ehy70, j71a, j71b, j71c, j71d, ar72, as73, ar74, as75, c67]; first | exact ⟨rfl, rfl⟩ | rfl) (by kernel_rfl) ?_
  obtain ⟨y76, hy76, hr66⟩ := bs hr66
  have ehy76 := G121_eq hy76
  simp only [E121, R121, nf, nfs] at ehy76
  obtain ⟨y77, hy77, hr66⟩ := bs hr66
  have ehy77 := G121_eq hy77
  simp only [E121, R121, nf, nfs] at ehy77
  obtain ⟨y78, hy78, hr66⟩ := bs hr66
  have ehy78 := G121_eq hy78
  simp only [E121, R121, nf, nfs] at ehy78
  refine ee_seq_reg rfl (by simp [hT121, ehy76, ehy77, ehy78, c67]; rfl) ?_
  refine ee_reg rfl (by simp [c67]; rfl) ?_
  simp only [pq, reduceCtorEq]
  refine ee_reg rfl (by simp [c67]; rfl) ?_
  obtain rfl := Option.some.inj hr66
  simp only [pq, reduceCtorEq]
  simp [und, List.replicate, Nat.add_assoc, c67]
 ·skip
  rw [if_neg] at hr66
  rotate_left
  ·simp [c67]
  refine ee_seq_condF (by simp [bV, c67]) ?_
  refine ee_seq_exit ?_
  obtain ⟨r79, q79, rfl⟩ := ms hr66
  simp only [pq, reduceCtorEq]
  rintro rfl
  try simp only [pq, reduceCtorEq]
  unfold Lref03_Compress_k1 at q79
  have ar80 := arC_get (k := .u32) (a0) (i := 0) (by decide)
  have as81 := arC_sub (k := .u32) (a0) (i := 0) (by decide)
  have ar82 := arC_get (k := .u32) (a0) (i := 1) (by decide)
  have as83 := arC_sub (k := .u32) (a0) (i := 1) (by decide)
  have ar84 := arC_get (k := .u32) (a0) (i := 2) (by decide)
  have as85 := arC_sub (k := .u32) (a0) (i := 2) (by decide)
  have ar86 := arC_get (k := .u32) (a0) (i := 3) (by decide)
  have as87 := arC_sub (k := .u32) (a0) (i := 3) (by decide)
  have ar88 := arC_get (k := .u32) (a0) (i := 4) (by decide)
  have as89 := arC_sub (k := .u32) (a0) (i := 4) (by decide)
  have ar90 := arC_get (k := .u32) (a0) (i := 5) (by decide)
  have as91 := arC_sub (k := .u32) (a0) (i := 5) (by decide)
  have ar92 := arC_get (k := .u32) (a0) (i := 6) (by decide)
  have as93 := arC_sub (k := .u32) (a0) (i := 6) (by decide)
  have ar94 := arC_get (k := .u32) (a0) (i := 7) (by decide)
  have as95 := arC_sub (k := .u32) (a0) (i := 7) (by decide)
  have ap96 := arC_put (k := .u32) (zA 8) (i := 0) (by decide) (IntKind.u32.wrap ((a0.at 0) + p25))
  have ap97 := arC_put (k := .u32) ((zA 8).put 0 (IntKind.u32.wrap ((a0.at 0) + p25))) (i := 1) (by decide) (IntKind.u32.wrap ((a0.at 1) + p26))
  have ap98 := arC_put (k := .u32) (((zA 8).put 0 (IntKind.u32.wrap ((a0.at 0) + p25))).put 1 (IntKind.u32.wrap ((a0.at 1) + p26))) (i := 2) (by decide) (IntKind.u32.wrap ((a0.at 2) + p27))
  have ap99 := arC_put (k := .u32) ((((zA 8).put 0 (IntKind.u32.wrap ((a0.at 0) + p25))).put 1 (IntKind.u32.wrap ((a0.at 1) + p26))).put 2 (IntKind.u32.wrap ((a0.at 2) + p27))) (i := 3) (by decide) (IntKind.u32.wrap ((a0.at 3) + p28))
  have ap100 := arC_put (k := .u32) (((((zA 8).put 0 (IntKind.u32.wrap ((a0.at 0) + p25))).put 1 (IntKind.u32.wrap ((a0.at 1) + p26))).put 2 (IntKind.u32.wrap ((a0.at 2) + p27))).put 3 (IntKind.u32.wrap ((a0.at 3) + p28))) (i := 4) (by decide) (IntKind.u32.wrap ((a0.at 4) + p29))
  have ap101 := arC_put (k := .u32) ((((((zA 8).put 0 (IntKind.u32.wrap ((a0.at 0) + p25))).put 1 (IntKind.u32.wrap ((a0.at 1) + p26))).put 2 (IntKind.u32.wrap ((a0.at 2) + p27))).put 3 (IntKind.u32.wrap ((a0.at 3) + p28))).put 4 (IntKind.u32.wrap ((a0.at 4) + p29))) (i := 5) (by decide) (IntKind.u32.wrap ((a0.at 5) + p30))
  have ap102 := arC_put (k := .u32) (((((((zA 8).put 0 (IntKind.u32.wrap ((a0.at 0) + p25))).put 1 (IntKind.u32.wrap ((a0.at 1) + p26))).put 2 (IntKind.u32.wrap ((a0.at 2) + p27))).put 3 (IntKind.u32.wrap ((a0.at 3) + p28))).put 4 (IntKind.u32.wrap ((a0.at 4) + p29))).put 5 (IntKind.u32.wrap ((a0.at 5) + p30))) (i := 6) (by decide) (IntKind.u32.wrap ((a0.at 6) + p31))
  have ap103 := arC_put (k := .u32) ((((((((zA 8).put 0 (IntKind.u32.wrap ((a0.at 0) + p25))).put 1 (IntKind.u32.wrap ((a0.at 1) + p26))).put 2 (IntKind.u32.wrap ((a0.at 2) + p27))).put 3 (IntKind.u32.wrap ((a0.at 3) + p28))).put 4 (IntKind.u32.wrap ((a0.at 4) + p29))).put 5 (IntKind.u32.wrap ((a0.at 5) + p30))).put 6 (IntKind.u32.wrap ((a0.at 6) + p31))) (i := 7) (by decide) (IntKind.u32.wrap ((a0.at 7) + p32))
  refine ee_seq_reg rfl (by simp [ar80, as81, ar82, as83, ar84, as85, ar86, as87, ar88, as89, ar90, as91, ar92, as93, ar94, as95, ap96, ap97, ap98, ap99, ap100, ap101, ap102, ap103, c67]; rfl) ?_
  refine ee_ret ?_
  obtain rfl := Option.some.inj q79
  simp [FinQ, ar80, as81, ar82, as83, ar84, as85, ar86, as87, ar88, as89, ar90, as91, ar92, as93, ar94, as95, ap96, ap97, ap98, ap99, ap100, ap101, ap102, ap103, c67]
def kp97 : Keep := fun i => if i = 4 then ⟨[2, 3, 4, 5], [2, 4, 11], []⟩ else if i = 11 then ⟨[2, 7, 33, 34], [2, 7], []⟩ else ⟨[], [], []⟩
theorem w97 {T : Tab} (hT111 : T 111 = some G111) (hT112 : T 112 = some G112) (hT113 : T 113 = some G113) (a0 : (List Int)) (x : (Arr 32)) (hr : Lref03_Sum a0 = some x) : ∃ kp fl n, execFn tt T G kp fl n Tryd.f97 (E97 a0) = some (R97 a0 x) := by
 simp only [E97, R97]
 refine fnE (kp := kp97) (w := false) body97 ?_
 unfold c97
 rw [Tryd.ntmps97]
 unfold Lref03_Sum at hr
 refine ee_seq_reg rfl (by simp [-intsR_app, -List.take_append, -List.drop_append, ]; rfl) ?_
 obtain ⟨_, u40, hr⟩ := bs hr
 have u40_0 := chk_some u40
 have n1_u40_0 : a0.length ≤ 140737488355328 := by omega
 have n2_u40_0 : a0.length ≤ 9223372036854775807 := by omega
 obtain ⟨y41, hy41, hr⟩ := bs hr
 have ehy41 := G111_eq hy41
 simp only [E111, R111, nf, nfs] at ehy41
 obtain ⟨_, u42, hr⟩ := bs hr
 have u42_0 := chk_some u42
 have n1_u42_0 : a0.length + y41.length ≤ 140737488355328 := by omega
 have n2_u42_0 : a0.length + y41.length ≤ 9223372036854775807 := by omega
 refine ee_seq_reg rfl (by simp [-intsR_app, -List.take_append, -List.drop_append, n1_u40_0, n2_u40_0, hT111, ehy41, n1_u42_0, n2_u42_0]; rfl) ?_
 obtain ⟨y43, hy43, hr⟩ := bs hr
 have ehy43 := G112_eq hy43
 simp only [E112, R112, nf, nfs] at ehy43
 refine ee_seq_reg rfl (by simp [-intsR_app, -List.take_append, -List.drop_append, hT112, ehy43]; rfl) ?_
 refine ee_assoc ?_
 refine ee_seq_reg rfl (by simp [-intsR_app, -List.take_append, -List.drop_append, ]; rfl) ?_
 refine ee_seq_block ?_
 refine ee_loop (kq := ⟨[2, 3, 4, 5], [2, 4, 11], []⟩) (H := fun (s : Int × (Arr 8)) => match s with | (p11, p12) => (⟨(und 2 ++ ([.ptr 2 0 0 0 32, .one (.ms 11 0 0 (a0.length + y41.length) 1), .ptr 4 0 0 0 8, .one (.v (.int .i64 p11))] ++ (und 60)) : List PV), ([(2, ⟨0, 32, [arC .u8 (zA 32)], false, false⟩), (4, ⟨0, 8, [arC .u32 p12], false, false⟩), (11, ⟨0, 1, intsR .u8 (a0 ++ y41), false, true⟩)] : Boxes)⟩ : ASt)) (by kernel_rfl) hr (by simp [und, List.replicate, ]) ?_
 rintro ⟨p11, p12⟩ x44r hr44
 simp only [Lref03_Sum_s1] at hr44
 unfold b97_1
 simp only [und, List.replicate, List.cons_append, List.nil_append]
 refine ee_assoc ?_
 refine ee_seq_reg rfl (by simp [-intsR_app, -List.take_append, -List.drop_append, ]; rfl) ?_
 by_cases c45 : IntKind.i64.wrap (p11 + 64) ≤ (a0.length + y41.length : Int)
 ·skip
  have c45N := c45
  try simp at c45N
  first | have c45M : (_ = _) = True := eq_true c45N | have c45M := c45N
  rw [if_pos] at hr44
  rotate_left
  ·simp [c45, c45M]
  refine ee_seq_condT (by simp [bV, c45, c45M]) ?_
  refine ee_seq_skip ?_
  refine ee_seq_block ?_
  refine ee_seq_reg rfl (by simp [-intsR_app, -List.take_append, -List.drop_append, c45, c45M]; rfl) ?_
  obtain ⟨_, u46, hr44⟩ := bs hr44
  obtain ⟨u46_0, u46_1⟩ := chk_some u46
  have lu46_1 : p11 ≤ ((a0.length + y41.length : Nat) : Int) := by
   have h := u46_1
   try simp at h
   omega
  try simp only [Int.natCast_add] at lu46_1
  have sf47 : (p11).toNat ≤ (a0 ++ y41).length := by omega
  have sf48 : (p11).toNat ≤ a0.length + y41.length := by omega
  have al49 := eq_true (fun l h => intsR_all l (List.mem_of_mem_drop h) : ∀ l, l ∈ List.drop ((p11).toNat) (intsR .u8 (a0 ++ y41)) → l.length = 1)
  have ov49 := over_put (k := .u8) (a := zA 64) (l := (a0 ++ y41).drop (p11).toNat)
  try simp only [intsR_nil, intsR_cons, intsR_tk, intsR_dr, intsR_st, intsR_rep, List.length_drop, List.length_append] at ov49
  refine ee_seq_draw rfl (by simp [-intsR_app, -List.take_append, -List.drop_append, u46_0, u46_1, lu46_1, sf47, sf48, al49, ov49, c45, c45M]; first | exact ⟨rfl, rfl⟩ | rfl) (by kernel_rfl) ?_
  obtain ⟨y50, hy50, hr44⟩ := bs hr44
  have ehy50 := G113_eq hy50
  simp only [E113, R113, nf, nfs] at ehy50
  refine ee_reg rfl (by simp [-intsR_app, -List.take_append, -List.drop_append, hT113, ehy50, c45, c45M]; rfl) ?_
  simp only [pq, reduceCtorEq]
  refine ee_reg rfl (by simp [-intsR_app, -List.take_append, -List.drop_append, c45, c45M]; rfl) ?_
  obtain rfl := Option.some.inj hr44
  simp only [pq, reduceCtorEq]
  simp [und, List.replicate, Nat.add_assoc, c45, c45M]
 ·skip
  have c45N := c45
  try simp at c45N
  first | have c45M : (_ = _) = True := eq_true c45N | have c45M := c45N
  rw [if_neg] at hr44
  rotate_left
  ·simp [c45, c45M]
  refine ee_seq_condF (by simp [bV, c45, c45M]) ?_
  refine ee_seq_exit ?_
  obtain ⟨r51, q51, rfl⟩ := ms hr44
  simp only [pq, reduceCtorEq]
  rintro rfl
  try simp only [pq, reduceCtorEq]
  unfold Lref03_Sum_k1 at q51
  refine ee_seq_reg rfl (by simp [-intsR_app, -List.take_append, -List.drop_append, c45, c45M]; rfl) ?_
  refine ee_assoc ?_
  refine ee_seq_reg rfl (by simp [-intsR_app, -List.take_append, -List.drop_append, c45, c45M]; rfl) ?_
  refine ee_seq_block ?_
  refine ee_loop (kq := ⟨[2, 7, 33, 34], [2, 7], []⟩) (H := fun (s : Int × (Arr 32)) => match s with | (p26, p27) => (⟨(und 2 ++ ([.ptr 2 0 0 0 32] ++ (und 4 ++ ([.ptr 7 0 0 0 32] ++ (und 25 ++ ([.agg (arC .u32 p12), .one (.v (.int .i64 p26))] ++ (und 31)))))) : List PV), ([(2, ⟨0, 32, [arC .u8 (zA 32)], false, false⟩), (7, ⟨0, 32, [arC .u8 p27], false, false⟩)] : Boxes)⟩ : ASt)) (by kernel_rfl) q51 (by simp [und, List.replicate, c45, c45M]) ?_
  rintro ⟨p26, p27⟩ x52r hr52
  simp only [Lref03_Sum_s2] at hr52
  unfold b97_2
  simp only [und, List.replicate, List.cons_append, List.nil_append]
  refine ee_seq_reg rfl (by simp [-intsR_app, -List.take_append, -List.drop_append, c45, c45M]; rfl) ?_
  by_cases c53 : p26 < 8
  ·skip
   rw [if_pos] at hr52
   rotate_left
   ·simp [c45, c45M, c53]
   refine ee_seq_condT (by simp [bV, c45, c45M, c53]) ?_
   refine ee_seq_skip ?_
   refine ee_seq_block ?_
   obtain ⟨j54, hj54, hr52⟩ := bs hr52
   obtain ⟨j54a, j54b, j54c⟩ := inA_some hj54
   have j54d : j54 ≤ 7 := by omega
   have ar55 := arC_get (k := .u32) (p12) (i := j54) j54c
   have as56 := arC_sub (k := .u32) (p12) (i := j54) j54c
   refine ee_seq_reg rfl (by simp [-intsR_app, -List.take_append, -List.drop_append, j54a, j54b, j54c, j54d, ar55, as56, c45, c45M, c53]; rfl) ?_
   obtain ⟨j57, hj57, hr52⟩ := bs hr52
   obtain ⟨j57a, j57b, j57c⟩ := inA_some hj57
   have j57d : j57 ≤ 31 := by omega
   have ap58 := arC_put (k := .u8) (p27) (i := j57) j57c (IntKind.u8.wrap ((p12.at j54).fdiv 16777216))
   obtain ⟨j59, hj59, hr52⟩ := bs hr52
   obtain ⟨j59a, j59b, j59c⟩ := inA_some hj59
   have j59d : j59 ≤ 31 := by omega
   have ap60 := arC_put (k := .u8) (p27.put j57 (IntKind.u8.wrap ((p12.at j54).fdiv 16777216))) (i := j59) j59c (IntKind.u8.wrap ((p12.at j54).fdiv 65536))
   obtain ⟨j61, hj61, hr52⟩ := bs hr52
   obtain ⟨j61a, j61b, j61c⟩ := inA_some hj61
   have j61d : j61 ≤ 31 := by omega
   have ap62 := arC_put (k := .u8) ((p27.put j57 (IntKind.u8.wrap ((p12.at j54).fdiv 16777216))).put j59 (IntKind.u8.wrap ((p12.at j54).fdiv 65536))) (i := j61) j61c (IntKind.u8.wrap ((p12.at j54).fdiv 256))
   obtain ⟨j63, hj63, hr52⟩ := bs hr52
   obtain ⟨j63a, j63b, j63c⟩ := inA_some hj63
   have j63d : j63 ≤ 31 := by omega
   have ap64 := arC_put (k := .u8) (((p27.put j57 (IntKind.u8.wrap ((p12.at j54).fdiv 16777216))).put j59 (IntKind.u8.wrap ((p12.at j54).fdiv 65536))).put j61 (IntKind.u8.wrap ((p12.at j54).fdiv 256))) (i := j63) j63c (IntKind.u8.wrap (p12.at j54))
   refine ee_reg rfl (by simp [-intsR_app, -List.take_append, -List.drop_append, j57a, j57b, j57c, j57d, ap58, j59a, j59b, j59c, j59d, ap60, j61a, j61b, j61c, j61d, ap62, j63a, j63b, j63c, j63d, ap64, c45, c45M, c53]; rfl) ?_
   simp only [pq, reduceCtorEq]
   refine ee_reg rfl (by simp [-intsR_app, -List.take_append, -List.drop_append, c45, c45M, c53]; rfl) ?_
   obtain rfl := Option.some.inj hr52
   simp only [pq, reduceCtorEq]
   simp [und, List.replicate, Nat.add_assoc, c45, c45M, c53]
  ·skip
   rw [if_neg] at hr52
   rotate_left
   ·simp [c45, c45M, c53]
   refine ee_seq_condF (by simp [bV, c45, c45M, c53]) ?_
   refine ee_seq_exit ?_
   obtain ⟨r65, q65, rfl⟩ := ms hr52
   simp only [pq, reduceCtorEq]
   rintro rfl
   try simp only [pq, reduceCtorEq]
   unfold Lref03_Sum_k2 at q65
   refine ee_seq_reg rfl (by simp [-intsR_app, -List.take_append, -List.drop_append, c45, c45M, c53]; rfl) ?_
   refine ee_ret ?_
   obtain rfl := Option.some.inj q65
   simp [FinQ, c45, c45M, c53]
def kp74 : Keep := fun i => ⟨[], [], []⟩
theorem w74 {T : Tab} (hT97 : T 97 = some G97) (a0 : (List Int)) (x : (Arr 32)) (hr : Lref03_Double a0 = some x) : ∃ kp fl n, execFn tt T G kp fl n Tryd.f74 (E74 a0) = some (R74 a0 x) := by
 simp only [E74, R74]
 refine fnE (kp := kp74) (w := false) body74 ?_
 unfold c74
 rw [Tryd.ntmps74]
 unfold Lref03_Double at hr
 refine ee_seq_reg rfl (by simp []; rfl) ?_
 obtain ⟨y3, hy3, hr⟩ := bs hr
 have ehy3 := G97_eq hy3
 simp only [E97, R97, nf, nfs] at ehy3
 refine ee_seq_reg rfl (by simp [hT97, ehy3]; rfl) ?_
 obtain ⟨y4, hy4, hr⟩ := bs hr
 have ehy4 := G97_eq hy4
 simp only [E97, R97, nf, nfs] at ehy4
 refine ee_seq_reg rfl (by simp [hT97, ehy4]; rfl) ?_
 refine ee_ret ?_
 obtain rfl := Option.some.inj hr
 simp [FinQ, hT97, ehy4]
def kp37 : Keep := fun i => ⟨[], [], []⟩
theorem w37 {T : Tab} (hT63 : T 63 = some G63) (hT64 : T 64 = some G64) (hT74 : T 74 = some G74) (a0 : Tapi_Tx) (x : (Arr 32)) (hr : Lref09_ID a0 = some x) : ∃ kp fl n, execFn tt T G kp fl n Tryd.f37 (E37 a0) = some (R37 a0 x) := by
 simp only [E37, R37]
 refine fnE (kp := kp37) (w := false) body37 ?_
 unfold c37
 rw [Tryd.ntmps37]
 unfold Lref09_ID at hr
 refine ee_seq_reg rfl (by simp []; rfl) ?_
 refine ee_assoc ?_
 obtain ⟨y4, hy4, hr⟩ := bs hr
 have ehy4 := G63_eq hy4
 simp only [E63, R63, nf, nfs] at ehy4
 refine ee_seq_reg rfl (by simp [hT63, ehy4]; rfl) ?_
 by_cases c5 : y4 = true
 ·skip
  rw [if_neg (not_not_intro c5)] at hr
  refine ee_seq_condF (by simp [bV, c5]) ?_
  refine ee_seq_skip ?_
  obtain ⟨y6, hy6, hr⟩ := bs hr
  have ehy6 := G64_eq hy6
  simp only [E64, R64, nf, nfs] at ehy6
  obtain ⟨y7, hy7, hr⟩ := bs hr
  have ehy7 := G74_eq hy7
  simp only [E74, R74, nf, nfs] at ehy7
  refine ee_seq_reg rfl (by simp [hT64, ehy6, hT74, ehy7, c5]; rfl) ?_
  refine ee_ret ?_
  obtain rfl := Option.some.inj hr
  simp [FinQ, hT64, ehy6, hT74, ehy7, c5]
 ·skip
  rw [if_pos c5] at hr
  refine ee_seq_condT (by simp [bV, c5]) ?_
  refine ee_assoc ?_
  refine ee_seq_reg rfl (by simp [c5]; rfl) ?_
  refine ee_seq_ret ?_
  obtain rfl := Option.some.inj hr
  simp [FinQ, c5]
def kp16 : Keep := fun i => ⟨[], [], []⟩
theorem w16 {T : Tab} (hT10 : T 10 = some G10) (hT17 : T 17 = some G17) (hT37 : T 37 = some G37) (a0 : Tlightclientmill_Deck) (a1 : Tapi_Tx) (x : Tapi_Tx × Tlightclientmill_Deck) (hr : Llaw36_heir a0 a1 = some x) : ∃ kp fl n, execFn tt T G kp fl n Tryd.f16 (E16 (a0, a1)) = some (R16 (a0, a1) x) := by
 simp only [E16, R16]
 refine fnE (kp := kp16) (w := true) body16 ?_
 unfold c16
 rw [Tryd.ntmps16]
 unfold Llaw36_heir at hr
 refine ee_seq_reg rfl (by simp []; rfl) ?_
 obtain ⟨y16, hy16, hr⟩ := bs hr
 have ehy16 := G10_eq hy16
 simp only [E10, R10, nf, nfs] at ehy16
 refine ee_seq_reg rfl (by simp [hT10, ehy16]; rfl) ?_
 refine ee_assoc ?_
 refine ee_seq_reg rfl (by simp []; rfl) ?_
 by_cases c17 : 0 < (a1.2.1.length : Int)
 ·skip
  have c17N := c17
  try simp at c17N
  first | have c17M : (_ = _) = True := eq_true c17N | have c17M := c17N
  rw [if_pos c17] at hr
  refine ee_seq_condT (by simp [bV, c17, c17M]) ?_
  obtain ⟨y18, hy18, hr⟩ := bs hr
  have ehy18 := G17_eq hy18
  simp only [E17, R17, nf, nfs] at ehy18
  obtain ⟨x19, hx19, hr⟩ := bs hr
  obtain ⟨hx19a, hx19b⟩ := idx_some hx19
  have hx19c := getE_of hx19b
  obtain ⟨_, u20, hr⟩ := bs hr
  have u20_0 := chk_some u20
  refine ee_seq_draw rfl (by simp [hT17, ehy18, hx19a, hx19b, hx19c, u20_0, c17, c17M]; first | exact ⟨rfl, rfl⟩ | rfl) (by kernel_rfl) ?_
  unfold Llaw36_heir_k1 at hr
  refine ee_assoc ?_
  obtain ⟨y21, hy21, hr⟩ := bs hr
  have ehy21 := G17_eq hy21
  simp only [E17, R17, nf, nfs] at ehy21
  refine ee_seq_reg rfl (by simp [hT17, ehy21, c17, c17M]; rfl) ?_
  by_cases c22 : y21.1 = 0
  ·skip
   rw [if_pos c22] at hr
   refine ee_seq_condT (by simp [bV, c17, c17M, eq_true c22]) ?_
   obtain ⟨y23, hy23, hr⟩ := bs hr
   have ehy23 := G37_eq hy23
   simp only [E37, R37, nf, nfs] at ehy23
   obtain ⟨_, u24, hr⟩ := bs hr
   have u24_0 := chk_some u24
   have n1_u24_0 : (y16.1.2.1.length + 1) * 64 ≤ 140737488355328 := by
    have h := u24_0
    try simp at h
    omega
   have n2_u24_0 : y16.1.2.1.length + 1 ≤ 9223372036854775807 := by
    have h := u24_0
    try simp at h
    omega
   refine ee_seq_draw rfl (by simp [hT37, ehy23, n1_u24_0, n2_u24_0, c17, c17M, eq_true c22]; first | exact ⟨rfl, rfl⟩ | rfl) (by kernel_rfl) ?_
   unfold Llaw36_heir_k2 at hr
   refine ee_seq_reg rfl (by simp [c17, c17M, eq_true c22]; rfl) ?_
   refine ee_ret ?_
   obtain rfl := Option.some.inj hr
   simp [FinQ, c17, c17M, eq_true c22]
  ·skip
   rw [if_neg c22] at hr
   refine ee_seq_condF (by simp [bV, c17, c17M, c22]) ?_
   refine ee_seq_skip ?_
   unfold Llaw36_heir_k2 at hr
   refine ee_seq_reg rfl (by simp [c17, c17M, c22]; rfl) ?_
   refine ee_ret ?_
   obtain rfl := Option.some.inj hr
   simp [FinQ, c17, c17M, c22]
 ·skip
  have c17N := c17
  try simp at c17N
  first | have c17M : (_ = _) = True := eq_true c17N | have c17M := c17N
  rw [if_neg c17] at hr
  refine ee_seq_condF (by simp [bV, c17, c17M]) ?_
  refine ee_seq_skip ?_
  unfold Llaw36_heir_k1 at hr
  refine ee_assoc ?_
  obtain ⟨y25, hy25, hr⟩ := bs hr
  have ehy25 := G17_eq hy25
  simp only [E17, R17, nf, nfs] at ehy25
  refine ee_seq_reg rfl (by simp [hT17, ehy25, c17, c17M]; rfl) ?_
  by_cases c26 : y25.1 = 0
  ·skip
   rw [if_pos c26] at hr
   refine ee_seq_condT (by simp [bV, c17, c17M, eq_true c26]) ?_
   obtain ⟨y27, hy27, hr⟩ := bs hr
   have ehy27 := G37_eq hy27
   simp only [E37, R37, nf, nfs] at ehy27
   obtain ⟨_, u28, hr⟩ := bs hr
   have u28_0 := chk_some u28
   have n1_u28_0 : (y16.1.2.1.length + 1) * 64 ≤ 140737488355328 := by omega
   have n2_u28_0 : y16.1.2.1.length + 1 ≤ 9223372036854775807 := by omega
   refine ee_seq_draw rfl (by simp [hT37, ehy27, n1_u28_0, n2_u28_0, c17, c17M, eq_true c26]; first | exact ⟨rfl, rfl⟩ | rfl) (by kernel_rfl) ?_
   unfold Llaw36_heir_k2 at hr
   refine ee_seq_reg rfl (by simp [c17, c17M, eq_true c26]; rfl) ?_
   refine ee_ret ?_
   obtain rfl := Option.some.inj hr
   simp [FinQ, c17, c17M, eq_true c26]
  ·skip
   rw [if_neg c26] at hr
   refine ee_seq_condF (by simp [bV, c17, c17M, c26]) ?_
   refine ee_seq_skip ?_
   unfold Llaw36_heir_k2 at hr
   refine ee_seq_reg rfl (by simp [c17, c17M, c26]; rfl) ?_
   refine ee_ret ?_
   obtain rfl := Option.some.inj hr
   simp [FinQ, c17, c17M, c26]
def kp24 : Keep := fun i => ⟨[], [], []⟩
theorem w24 {T : Tab} (hT63 : T 63 = some G63) (hT64 : T 64 = some G64) (a0 : Tapi_Tx) (x : Int) (hr : Lref09_Weight a0 = some x) : ∃ kp fl n, execFn tt T G kp fl n Tryd.f24 (E24 a0) = some (R24 a0 x) := by
 simp only [E24, R24]
 refine fnE (kp := kp24) (w := false) body24 ?_
 unfold c24
 rw [Tryd.ntmps24]
 unfold Lref09_Weight at hr
 refine ee_seq_reg rfl (by simp []; rfl) ?_
 refine ee_assoc ?_
 obtain ⟨y4, hy4, hr⟩ := bs hr
 have ehy4 := G63_eq hy4
 simp only [E63, R63, nf, nfs] at ehy4
 refine ee_seq_reg rfl (by simp [hT63, ehy4]; rfl) ?_
 by_cases c5 : y4 = true
 ·skip
  rw [if_neg (not_not_intro c5)] at hr
  refine ee_seq_condF (by simp [bV, c5]) ?_
  refine ee_seq_skip ?_
  obtain ⟨y6, hy6, hr⟩ := bs hr
  have ehy6 := G64_eq hy6
  simp only [E64, R64, nf, nfs] at ehy6
  obtain ⟨y7, hy7, hr⟩ := bs hr
  have ehy7 := G64_eq hy7
  simp only [E64, R64, nf, nfs] at ehy7
  refine ee_seq_draw rfl (by simp [hT64, ehy6, ehy7, c5]; first | exact ⟨rfl, rfl⟩ | rfl) (by kernel_rfl) ?_
  refine ee_ret ?_
  obtain rfl := Option.some.inj hr
  simp [FinQ, hT64, ehy6, ehy7, c5]
 ·skip
  rw [if_pos c5] at hr
  refine ee_seq_condT (by simp [bV, c5]) ?_
  refine ee_assoc ?_
  refine ee_seq_reg rfl (by simp [c5]; rfl) ?_
  refine ee_seq_ret ?_
  obtain rfl := Option.some.inj hr
  simp [FinQ, c5]
def kp83 : Keep := fun i => ⟨[], [], []⟩
theorem w83 {T : Tab} (a0 : Tapi_OutPoint) (x : Bool) (hr : Lref09_Null a0 = some x) : ∃ kp fl n, execFn tt T G kp fl n Tryd.f83 (E83 a0) = some (R83 a0 x) := by
 simp only [E83, R83]
 refine fnE (kp := kp83) (w := false) body83 ?_
 unfold c83
 rw [Tryd.ntmps83]
 unfold Lref09_Null at hr
 refine ee_seq_reg rfl (by simp []; rfl) ?_
 refine ee_seq_reg rfl (by simp []; rfl) ?_
 refine ee_ret ?_
 obtain rfl := Option.some.inj hr
 simp [FinQ, ]
def kp52 : Keep := fun i => ⟨[], [], []⟩
theorem w52 {T : Tab} (hT83 : T 83 = some G83) (a0 : Tapi_Tx) (x : Bool) (hr : Lref09_Coinbase a0 = some x) : ∃ kp fl n, execFn tt T G kp fl n Tryd.f52 (E52 a0) = some (R52 a0 x) := by
 simp only [E52, R52]
 refine fnE (kp := kp52) (w := false) body52 ?_
 unfold c52
 rw [Tryd.ntmps52]
 unfold Lref09_Coinbase at hr
 refine ee_seq_reg rfl (by simp []; rfl) ?_
 by_cases c4 : (a0.2.1.length : Int) = 1
 ·skip
  have c4N := c4
  try simp at c4N
  rw [if_pos] at hr
  rotate_left
  ·simp [eq_true c4, eq_true c4N]
  obtain ⟨z5, hz5, hr⟩ := bs hr
  obtain ⟨x6, hx6, hz5⟩ := bs hz5
  have hx6c := getE_of hx6
  obtain ⟨y7, hy7, hz5⟩ := bs hz5
  have ehy7 := G83_eq hy7
  simp only [E83, R83, nf, nfs] at ehy7
  obtain rfl := Option.some.inj hz5
  refine ee_seq_reg rfl (by simp [hx6, hx6c, hT83, ehy7, eq_true c4, eq_true c4N]; rfl) ?_
  refine ee_ret ?_
  obtain rfl := Option.some.inj hr
  simp [FinQ, hx6, hx6c, hT83, ehy7, eq_true c4, eq_true c4N]
 ·skip
  have c4N := c4
  try simp at c4N
  first | have c4M : (_ = _) = True := eq_true c4N | have c4M := c4N
  rw [if_neg] at hr
  rotate_left
  ·simp [c4, c4M]
  obtain ⟨z8, hz8, hr⟩ := bs hr
  obtain rfl := Option.some.inj hz8
  refine ee_seq_reg rfl (by simp [c4, c4M]; rfl) ?_
  refine ee_ret ?_
  obtain rfl := Option.some.inj hr
  simp [FinQ, c4, c4M]
end Go.Proofs.YtconfbgcjkjnkaaDoor
