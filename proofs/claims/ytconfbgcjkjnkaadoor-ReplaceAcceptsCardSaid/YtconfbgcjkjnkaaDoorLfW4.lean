import Derived.Test.YtconfbgcjkjnkaaDoorLfK
import Derived.Test.YtconfbgcjkjnkaaDoorCode
namespace Go.Proofs.YtconfbgcjkjnkaaDoor
open Go.RowKit
open Go.Av
open Go.Lc
set_option maxRecDepth 100000
set_option linter.unusedSimpArgs false
set_option linter.unusedVariables false
set_option maxHeartbeats 4000000
def kp82 : Keep := fun i => ⟨[], [], []⟩
theorem w82 {T : Tab} (hT66 : T 66 = some G66) (hT80 : T 80 = some G80) (a0 : Tapi_Entry) (x : Int) (hr : Lreplace_rateOf a0 = some x) : ∃ kp fl n, execFn tt T G kp fl n Tryd.f82 (E82 a0) = some (R82 a0 x) := by
 simp only [E82, R82]
 refine fnE (kp := kp82) (w := false) body82 ?_
 unfold c82
 rw [Tryd.ntmps82]
 unfold Lreplace_rateOf at hr
 refine ee_seq_reg rfl (by simp []; rfl) ?_
 obtain ⟨y3, hy3, hr⟩ := bs hr
 have ehy3 := G66_eq hy3
 simp only [E66, R66, nf, nfs] at ehy3
 obtain ⟨y4, hy4, hr⟩ := bs hr
 have ehy4 := G80_eq hy4
 simp only [E80, R80, nf, nfs] at ehy4
 refine ee_seq_draw rfl (by simp [hT66, ehy3, hT80, ehy4]; first | exact ⟨rfl, rfl⟩ | rfl) (by kernel_rfl) ?_
 refine ee_ret ?_
 obtain rfl := Option.some.inj hr
 simp [FinQ, hT66, ehy3, hT80, ehy4]
def kp81_9 : Keep := fun i => ⟨[], [], []⟩
theorem w81_9 {T : Tab} (hT82 : T 82 = some G82) (a0 : Tapi_Entry) (a1 : Int) (x : Bool) (hr : Lreplace_enough_1__r a0 a1 = some x) : ∃ kp fl n, execFn tt T G kp fl n Tryd.f81 (E81_9 (a0, a1)) = some (R81_9 (a0, a1) x) := by
 simp only [E81_9, R81_9]
 refine fnE (kp := kp81_9) (w := false) body81 ?_
 unfold c81
 rw [Tryd.ntmps81]
 unfold Lreplace_enough_1__r at hr
 refine ee_seq_reg rfl (by simp []; rfl) ?_
 obtain ⟨y2, hy2, hr⟩ := bs hr
 have ehy2 := G82_eq hy2
 simp only [E82, R82, nf, nfs] at ehy2
 refine ee_seq_draw rfl (by simp [hT82, ehy2]; first | exact ⟨rfl, rfl⟩ | rfl) (by kernel_rfl) ?_
 refine ee_ret ?_
 obtain rfl := Option.some.inj hr
 simp [FinQ, hT82, ehy2]
def kp77_10 : Keep := fun i => if i = 2 then ⟨[0, 1, 7, 8], [], []⟩ else ⟨[], [], []⟩
theorem w77_10 {T : Tab} (hT81 : T 81 = some G81_9) (a0 : (List Tapi_Entry)) (a1 : Int) (x : Int) (hr : Lslices_IndexFunc_of__api_Entry_api_Entry__replace_enough_1 a0 a1 = some x) : ∃ kp fl n, execFn tt T G kp fl n Tryd.f77 (E77_10 (a0, a1)) = some (R77_10 (a0, a1) x) := by
 simp only [E77_10, R77_10]
 refine fnE (kp := kp77_10) (w := false) body77 ?_
 unfold c77
 rw [Tryd.ntmps77]
 unfold Lslices_IndexFunc_of__api_Entry_api_Entry__replace_enough_1 at hr
 refine ee_seq_reg rfl (by simp []; rfl) ?_
 refine ee_assoc ?_
 refine ee_seq_reg rfl (by simp []; rfl) ?_
 refine ee_seq_block ?_
 refine ee_loop (kq := ⟨[0, 1, 7, 8], [], []⟩) (H := fun (s : Int) => match s with | p6 => (⟨([.one (.slice .no (List.map eapi_Entry a0)), .clo 81 [.ref ([.v (.int .i64 a1)])]] ++ (und 5 ++ ([.one (.v (.int .i64 (a0.length : Int))), .one (.v (.int .i64 p6))] ++ (und 10))) : List PV), ([] : Boxes)⟩ : ASt)) (by kernel_rfl) hr (by simp [und, List.replicate, ]) ?_
 rintro p6 x11r hr11
 simp only [Lslices_IndexFunc_of__api_Entry_api_Entry__replace_enough_1_s1] at hr11
 unfold b77_1
 simp only [und, List.replicate, List.cons_append, List.nil_append]
 refine ee_seq_reg rfl (by simp []; rfl) ?_
 by_cases c12 : p6 < (a0.length : Int)
 ·skip
  have c12N := c12
  try simp at c12N
  first | have c12M : (_ = _) = True := eq_true c12N | have c12M := c12N
  rw [if_pos] at hr11
  rotate_left
  ·simp [c12, c12M]
  refine ee_seq_condT (by simp [bV, c12, c12M]) ?_
  refine ee_seq_skip ?_
  refine ee_seq_block ?_
  refine ee_seq_reg rfl (by simp [c12, c12M]; rfl) ?_
  obtain ⟨x13, hx13, hr11⟩ := bs hr11
  obtain ⟨hx13a, hx13b⟩ := idx_some hx13
  have hx13c := getE_of hx13b
  obtain ⟨y14, hy14, hr11⟩ := bs hr11
  have ehy14 := G81_9_eq hy14
  simp only [E81_9, R81_9, nf, nfs] at ehy14
  refine ee_seq_reg rfl (by simp [hx13a, hx13b, hx13c, hT81, ehy14, c12, c12M]; rfl) ?_
  by_cases c15 : y14 = true
  ·skip
   rw [if_pos c15] at hr11
   refine ee_condT (by simp [bV, c12, c12M, c15]) ?_
   refine ee_seq_reg rfl (by simp [c12, c12M, c15]; rfl) ?_
   refine ee_ret ?_
   obtain rfl := Option.some.inj hr11
   simp only [pq, reduceCtorEq]
   rintro rfl
   simp [FinQ, c12, c12M, c15]
  ·skip
   rw [if_neg c15] at hr11
   refine ee_condF (by simp [bV, c12, c12M, c15]) ?_
   refine ee_skip ?_
   simp only [pq, reduceCtorEq]
   refine ee_reg rfl (by simp [c12, c12M, c15]; rfl) ?_
   obtain rfl := Option.some.inj hr11
   simp only [pq, reduceCtorEq]
   simp [und, List.replicate, Nat.add_assoc, c12, c12M, c15]
 ·skip
  have c12N := c12
  try simp at c12N
  first | have c12M : (_ = _) = True := eq_true c12N | have c12M := c12N
  rw [if_neg] at hr11
  rotate_left
  ·simp [c12, c12M]
  refine ee_seq_condF (by simp [bV, c12, c12M]) ?_
  refine ee_seq_exit ?_
  obtain ⟨r16, q16, rfl⟩ := ms hr11
  simp only [pq, reduceCtorEq]
  rintro rfl
  try simp only [pq, reduceCtorEq]
  unfold Lslices_IndexFunc_of__api_Entry_api_Entry__replace_enough_1_k1 at q16
  refine ee_seq_reg rfl (by simp [c12, c12M]; rfl) ?_
  refine ee_ret ?_
  obtain rfl := Option.some.inj q16
  simp [FinQ, c12, c12M]
def kp41_11 : Keep := fun i => ⟨[], [], []⟩
theorem w41_11 {T : Tab} (hT77 : T 77 = some G77_10) (a0 : (List Tapi_Entry)) (a1 : Int) (x : Bool) (hr : Lslices_ContainsFunc_of__api_Entry_api_Entry__replace_enough_1 a0 a1 = some x) : ∃ kp fl n, execFn tt T G kp fl n Tryd.f41 (E41_11 (a0, a1)) = some (R41_11 (a0, a1) x) := by
 simp only [E41_11, R41_11]
 refine fnE (kp := kp41_11) (w := false) body41 ?_
 unfold c41
 rw [Tryd.ntmps41]
 unfold Lslices_ContainsFunc_of__api_Entry_api_Entry__replace_enough_1 at hr
 refine ee_seq_reg rfl (by simp []; rfl) ?_
 obtain ⟨y2, hy2, hr⟩ := bs hr
 have ehy2 := G77_10_eq hy2
 simp only [E77_10, R77_10, nf, nfs] at ehy2
 refine ee_seq_reg rfl (by simp [hT77, ehy2]; rfl) ?_
 refine ee_ret ?_
 obtain rfl := Option.some.inj hr
 simp [FinQ, hT77, ehy2]
def kp50 : Keep := fun i => if i = 4 then ⟨[0, 2, 7, 8, 18, 19, 20], [], []⟩ else ⟨[], [], []⟩
theorem w50 {T : Tab} (hT41 : T 41 = some G41_11) (hT66 : T 66 = some G66) (hT67 : T 67 = some G67) (hT80 : T 80 = some G80) (a0 : (List Tapi_Entry)) (a1 : Tapi_Tx) (a2 : Int) (x : Bool) (hr : Lreplace_enough a0 a1 a2 = some x) : ∃ kp fl n, execFn tt T G kp fl n Tryd.f50 (E50 (a0, a1, a2)) = some (R50 (a0, a1, a2) x) := by
 simp only [E50, R50]
 refine fnE (kp := kp50) (w := false) body50 ?_
 unfold c50
 rw [Tryd.ntmps50]
 unfold Lreplace_enough at hr
 refine ee_seq_reg rfl (by simp []; rfl) ?_
 obtain ⟨y13, hy13, hr⟩ := bs hr
 have ehy13 := G66_eq hy13
 simp only [E66, R66, nf, nfs] at ehy13
 refine ee_seq_reg rfl (by simp [hT66, ehy13]; rfl) ?_
 obtain ⟨y14, hy14, hr⟩ := bs hr
 have ehy14 := G67_eq hy14
 simp only [E67, R67, nf, nfs] at ehy14
 refine ee_seq_reg rfl (by simp [hT67, ehy14]; rfl) ?_
 refine ee_assoc ?_
 refine ee_seq_reg rfl (by simp []; rfl) ?_
 refine ee_seq_block ?_
 refine ee_loop (kq := ⟨[0, 2, 7, 8, 18, 19, 20], [], []⟩) (H := fun (s : Int × Int) => match s with | (p7, p8) => (⟨([.one (.slice .no (List.map eapi_Entry a0))] ++ (und 1 ++ ([.one (.v (.int .i64 a2))] ++ (und 4 ++ ([.one (.v (.int .i64 y13)), .one (.v (.int .i64 p7))] ++ (und 9 ++ ([.one (.slice .no (List.map eapi_Entry a0)), .one (.v (.int .i64 (a0.length : Int))), .one (.v (.int .i64 p8))] ++ (und 21))))))) : List PV), ([] : Boxes)⟩ : ASt)) (by kernel_rfl) hr (by simp [und, List.replicate, ]) ?_
 rintro ⟨p7, p8⟩ x15r hr15
 simp only [Lreplace_enough_s1] at hr15
 unfold b50_1
 simp only [und, List.replicate, List.cons_append, List.nil_append]
 refine ee_seq_reg rfl (by simp []; rfl) ?_
 by_cases c16 : p8 < (a0.length : Int)
 ·skip
  have c16N := c16
  try simp at c16N
  first | have c16M : (_ = _) = True := eq_true c16N | have c16M := c16N
  rw [if_pos] at hr15
  rotate_left
  ·simp [c16, c16M]
  refine ee_seq_condT (by simp [bV, c16, c16M]) ?_
  refine ee_seq_skip ?_
  refine ee_seq_block ?_
  obtain ⟨x17, hx17, hr15⟩ := bs hr15
  obtain ⟨hx17a, hx17b⟩ := idx_some hx17
  have hx17c := getE_of hx17b
  refine ee_seq_reg rfl (by simp [hx17a, hx17b, hx17c, c16, c16M]; rfl) ?_
  refine ee_assoc ?_
  refine ee_seq_reg rfl (by simp [c16, c16M]; rfl) ?_
  by_cases c18 : p7 < x17.2
  ·skip
   rw [if_pos] at hr15
   rotate_left
   ·simp [c16, c16M, c18]
   refine ee_seq_condT (by simp [bV, c16, c16M, c18]) ?_
   refine ee_assoc ?_
   refine ee_seq_reg rfl (by simp [c16, c16M, c18]; rfl) ?_
   refine ee_seq_ret ?_
   obtain rfl := Option.some.inj hr15
   simp only [pq, reduceCtorEq]
   rintro rfl
   simp [FinQ, c16, c16M, c18]
  ·skip
   rw [if_neg] at hr15
   rotate_left
   ·simp [c16, c16M, c18]
   refine ee_seq_condF (by simp [bV, c16, c16M, c18]) ?_
   refine ee_seq_skip ?_
   refine ee_reg rfl (by simp [c16, c16M, c18]; rfl) ?_
   simp only [pq, reduceCtorEq]
   refine ee_reg rfl (by simp [c16, c16M, c18]; rfl) ?_
   obtain rfl := Option.some.inj hr15
   simp only [pq, reduceCtorEq]
   simp [und, List.replicate, Nat.add_assoc, c16, c16M, c18]
 ·skip
  have c16N := c16
  try simp at c16N
  first | have c16M : (_ = _) = True := eq_true c16N | have c16M := c16N
  rw [if_neg] at hr15
  rotate_left
  ·simp [c16, c16M]
  refine ee_seq_condF (by simp [bV, c16, c16M]) ?_
  refine ee_seq_exit ?_
  obtain ⟨r19, q19, rfl⟩ := ms hr15
  simp only [pq, reduceCtorEq]
  rintro rfl
  try simp only [pq, reduceCtorEq]
  unfold Lreplace_enough_k1 at q19
  refine ee_assoc ?_
  refine ee_seq_reg rfl (by simp [c16, c16M]; rfl) ?_
  by_cases c20 : p7 < 0
  ·skip
   rw [if_pos c20] at q19
   refine ee_seq_condT (by simp [bV, c16, c16M, c20]) ?_
   refine ee_assoc ?_
   refine ee_seq_reg rfl (by simp [c16, c16M, c20]; rfl) ?_
   refine ee_seq_ret ?_
   obtain rfl := Option.some.inj q19
   simp [FinQ, c16, c16M, c20]
  ·skip
   rw [if_neg c20] at q19
   refine ee_seq_condF (by simp [bV, c16, c16M, c20]) ?_
   refine ee_seq_skip ?_
   obtain ⟨y21, hy21, q19⟩ := bs q19
   have ehy21 := G80_eq hy21
   simp only [E80, R80, nf, nfs] at ehy21
   refine ee_seq_reg rfl (by simp [hT80, ehy21, c16, c16M, c20]; rfl) ?_
   obtain ⟨y22, hy22, q19⟩ := bs q19
   have ehy22 := G41_11_eq hy22
   simp only [E41_11, R41_11, nf, nfs] at ehy22
   refine ee_seq_reg rfl (by simp [hT41, ehy22, c16, c16M, c20]; rfl) ?_
   refine ee_ret ?_
   obtain rfl := Option.some.inj q19
   simp [FinQ, hT41, ehy22, c16, c16M, c20]
def kp77_12 : Keep := fun i => if i = 2 then ⟨[0, 1, 7, 8], [], []⟩ else ⟨[], [], []⟩
theorem w77_12 {T : Tab} (hT47 : T 47 = some G47) (a0 : (List Tapi_Entry)) (x : Int) (hr : Lslices_IndexFunc_of__api_Entry_api_Entry__replace_Accept_3 a0 = some x) : ∃ kp fl n, execFn tt T G kp fl n Tryd.f77 (E77_12 a0) = some (R77_12 a0 x) := by
 simp only [E77_12, R77_12]
 refine fnE (kp := kp77_12) (w := false) body77 ?_
 unfold c77
 rw [Tryd.ntmps77]
 unfold Lslices_IndexFunc_of__api_Entry_api_Entry__replace_Accept_3 at hr
 refine ee_seq_reg rfl (by simp []; rfl) ?_
 refine ee_assoc ?_
 refine ee_seq_reg rfl (by simp []; rfl) ?_
 refine ee_seq_block ?_
 refine ee_loop (kq := ⟨[0, 1, 7, 8], [], []⟩) (H := fun (s : Int) => match s with | p6 => (⟨([.one (.slice .no (List.map eapi_Entry a0)), .fn 47] ++ (und 5 ++ ([.one (.v (.int .i64 (a0.length : Int))), .one (.v (.int .i64 p6))] ++ (und 10))) : List PV), ([] : Boxes)⟩ : ASt)) (by kernel_rfl) hr (by simp [und, List.replicate, ]) ?_
 rintro p6 x11r hr11
 simp only [Lslices_IndexFunc_of__api_Entry_api_Entry__replace_Accept_3_s1] at hr11
 unfold b77_1
 simp only [und, List.replicate, List.cons_append, List.nil_append]
 refine ee_seq_reg rfl (by simp []; rfl) ?_
 by_cases c12 : p6 < (a0.length : Int)
 ·skip
  have c12N := c12
  try simp at c12N
  first | have c12M : (_ = _) = True := eq_true c12N | have c12M := c12N
  rw [if_pos] at hr11
  rotate_left
  ·simp [c12, c12M]
  refine ee_seq_condT (by simp [bV, c12, c12M]) ?_
  refine ee_seq_skip ?_
  refine ee_seq_block ?_
  refine ee_seq_reg rfl (by simp [c12, c12M]; rfl) ?_
  obtain ⟨x13, hx13, hr11⟩ := bs hr11
  obtain ⟨hx13a, hx13b⟩ := idx_some hx13
  have hx13c := getE_of hx13b
  obtain ⟨y14, hy14, hr11⟩ := bs hr11
  have ehy14 := G47_eq hy14
  simp only [E47, R47, nf, nfs] at ehy14
  refine ee_seq_reg rfl (by simp [hx13a, hx13b, hx13c, hT47, ehy14, c12, c12M]; rfl) ?_
  by_cases c15 : y14 = true
  ·skip
   rw [if_pos c15] at hr11
   refine ee_condT (by simp [bV, c12, c12M, c15]) ?_
   refine ee_seq_reg rfl (by simp [c12, c12M, c15]; rfl) ?_
   refine ee_ret ?_
   obtain rfl := Option.some.inj hr11
   simp only [pq, reduceCtorEq]
   rintro rfl
   simp [FinQ, c12, c12M, c15]
  ·skip
   rw [if_neg c15] at hr11
   refine ee_condF (by simp [bV, c12, c12M, c15]) ?_
   refine ee_skip ?_
   simp only [pq, reduceCtorEq]
   refine ee_reg rfl (by simp [c12, c12M, c15]; rfl) ?_
   obtain rfl := Option.some.inj hr11
   simp only [pq, reduceCtorEq]
   simp [und, List.replicate, Nat.add_assoc, c12, c12M, c15]
 ·skip
  have c12N := c12
  try simp at c12N
  first | have c12M : (_ = _) = True := eq_true c12N | have c12M := c12N
  rw [if_neg] at hr11
  rotate_left
  ·simp [c12, c12M]
  refine ee_seq_condF (by simp [bV, c12, c12M]) ?_
  refine ee_seq_exit ?_
  obtain ⟨r16, q16, rfl⟩ := ms hr11
  simp only [pq, reduceCtorEq]
  rintro rfl
  try simp only [pq, reduceCtorEq]
  unfold Lslices_IndexFunc_of__api_Entry_api_Entry__replace_Accept_3_k1 at q16
  refine ee_seq_reg rfl (by simp [c12, c12M]; rfl) ?_
  refine ee_ret ?_
  obtain rfl := Option.some.inj q16
  simp [FinQ, c12, c12M]
def kp41_13 : Keep := fun i => ⟨[], [], []⟩
theorem w41_13 {T : Tab} (hT77 : T 77 = some G77_12) (a0 : (List Tapi_Entry)) (x : Bool) (hr : Lslices_ContainsFunc_of__api_Entry_api_Entry__replace_Accept_3 a0 = some x) : ∃ kp fl n, execFn tt T G kp fl n Tryd.f41 (E41_13 a0) = some (R41_13 a0 x) := by
 simp only [E41_13, R41_13]
 refine fnE (kp := kp41_13) (w := false) body41 ?_
 unfold c41
 rw [Tryd.ntmps41]
 unfold Lslices_ContainsFunc_of__api_Entry_api_Entry__replace_Accept_3 at hr
 refine ee_seq_reg rfl (by simp []; rfl) ?_
 obtain ⟨y2, hy2, hr⟩ := bs hr
 have ehy2 := G77_12_eq hy2
 simp only [E77_12, R77_12, nf, nfs] at ehy2
 refine ee_seq_reg rfl (by simp [hT77, ehy2]; rfl) ?_
 refine ee_ret ?_
 obtain rfl := Option.some.inj hr
 simp [FinQ, hT77, ehy2]
def kp40_14 : Keep := fun i => ⟨[], [], []⟩
theorem w40_14 {T : Tab} (hT41 : T 41 = some G41_13) (a0 : (List Tapi_Entry)) (x : Bool) (hr : Lreplace_Accept_1__replace_Accept_3_p a0 = some x) : ∃ kp fl n, execFn tt T G kp fl n Tryd.f40 (E40_14 a0) = some (R40_14 a0 x) := by
 simp only [E40_14, R40_14]
 refine fnE (kp := kp40_14) (w := false) body40 ?_
 unfold c40
 rw [Tryd.ntmps40]
 unfold Lreplace_Accept_1__replace_Accept_3_p at hr
 refine ee_seq_reg rfl (by simp []; rfl) ?_
 obtain ⟨y2, hy2, hr⟩ := bs hr
 have ehy2 := G41_13_eq hy2
 simp only [E41_13, R41_13, nf, nfs] at ehy2
 refine ee_seq_reg rfl (by simp [hT41, ehy2]; rfl) ?_
 refine ee_ret ?_
 obtain rfl := Option.some.inj hr
 simp [FinQ, hT41, ehy2]
def kp48_15 : Keep := fun i => ⟨[], [], []⟩
theorem w48_15 {T : Tab} (hT13 : T 13 = some G13) (a0 : Tapi_Entry) (a1 : Tapi_Tx) (x : Bool) (hr : Lreplace_Accept_4__r a0 a1 = some x) : ∃ kp fl n, execFn tt T G kp fl n Tryd.f48 (E48_15 (a0, a1)) = some (R48_15 (a0, a1) x) := by
 simp only [E48_15, R48_15]
 refine fnE (kp := kp48_15) (w := false) body48 ?_
 unfold c48
 rw [Tryd.ntmps48]
 unfold Lreplace_Accept_4__r at hr
 refine ee_seq_reg rfl (by simp []; rfl) ?_
 obtain ⟨y2, hy2, hr⟩ := bs hr
 have ehy2 := G13_eq hy2
 simp only [E13, R13, nf, nfs] at ehy2
 refine ee_seq_reg rfl (by simp [hT13, ehy2]; rfl) ?_
 refine ee_ret ?_
 obtain rfl := Option.some.inj hr
 simp [FinQ, hT13, ehy2]
def kp77_16 : Keep := fun i => if i = 2 then ⟨[0, 1, 7, 8], [], []⟩ else ⟨[], [], []⟩
theorem w77_16 {T : Tab} (hT48 : T 48 = some G48_15) (a0 : (List Tapi_Entry)) (a1 : Tapi_Tx) (x : Int) (hr : Lslices_IndexFunc_of__api_Entry_api_Entry__replace_Accept_4 a0 a1 = some x) : ∃ kp fl n, execFn tt T G kp fl n Tryd.f77 (E77_16 (a0, a1)) = some (R77_16 (a0, a1) x) := by
 simp only [E77_16, R77_16]
 refine fnE (kp := kp77_16) (w := false) body77 ?_
 unfold c77
 rw [Tryd.ntmps77]
 unfold Lslices_IndexFunc_of__api_Entry_api_Entry__replace_Accept_4 at hr
 refine ee_seq_reg rfl (by simp []; rfl) ?_
 refine ee_assoc ?_
 refine ee_seq_reg rfl (by simp []; rfl) ?_
 refine ee_seq_block ?_
 refine ee_loop (kq := ⟨[0, 1, 7, 8], [], []⟩) (H := fun (s : Int) => match s with | p6 => (⟨([.one (.slice .no (List.map eapi_Entry a0)), .clo 48 [.ref ([.v (.int .u32 a1.1), .slice .no (List.map eapi_Input a1.2.1), .slice .no (List.map eapi_Output a1.2.2.1), .v (.int .u32 a1.2.2.2)])]] ++ (und 5 ++ ([.one (.v (.int .i64 (a0.length : Int))), .one (.v (.int .i64 p6))] ++ (und 10))) : List PV), ([] : Boxes)⟩ : ASt)) (by kernel_rfl) hr (by simp [und, List.replicate, ]) ?_
 rintro p6 x11r hr11
 simp only [Lslices_IndexFunc_of__api_Entry_api_Entry__replace_Accept_4_s1] at hr11
 unfold b77_1
 simp only [und, List.replicate, List.cons_append, List.nil_append]
 refine ee_seq_reg rfl (by simp []; rfl) ?_
 by_cases c12 : p6 < (a0.length : Int)
 ·skip
  have c12N := c12
  try simp at c12N
  first | have c12M : (_ = _) = True := eq_true c12N | have c12M := c12N
  rw [if_pos] at hr11
  rotate_left
  ·simp [c12, c12M]
  refine ee_seq_condT (by simp [bV, c12, c12M]) ?_
  refine ee_seq_skip ?_
  refine ee_seq_block ?_
  refine ee_seq_reg rfl (by simp [c12, c12M]; rfl) ?_
  obtain ⟨x13, hx13, hr11⟩ := bs hr11
  obtain ⟨hx13a, hx13b⟩ := idx_some hx13
  have hx13c := getE_of hx13b
  obtain ⟨y14, hy14, hr11⟩ := bs hr11
  have ehy14 := G48_15_eq hy14
  simp only [E48_15, R48_15, nf, nfs] at ehy14
  refine ee_seq_reg rfl (by simp [hx13a, hx13b, hx13c, hT48, ehy14, c12, c12M]; rfl) ?_
  by_cases c15 : y14 = true
  ·skip
   rw [if_pos c15] at hr11
   refine ee_condT (by simp [bV, c12, c12M, c15]) ?_
   refine ee_seq_reg rfl (by simp [c12, c12M, c15]; rfl) ?_
   refine ee_ret ?_
   obtain rfl := Option.some.inj hr11
   simp only [pq, reduceCtorEq]
   rintro rfl
   simp [FinQ, c12, c12M, c15]
  ·skip
   rw [if_neg c15] at hr11
   refine ee_condF (by simp [bV, c12, c12M, c15]) ?_
   refine ee_skip ?_
   simp only [pq, reduceCtorEq]
   refine ee_reg rfl (by simp [c12, c12M, c15]; rfl) ?_
   obtain rfl := Option.some.inj hr11
   simp only [pq, reduceCtorEq]
   simp [und, List.replicate, Nat.add_assoc, c12, c12M, c15]
 ·skip
  have c12N := c12
  try simp at c12N
  first | have c12M : (_ = _) = True := eq_true c12N | have c12M := c12N
  rw [if_neg] at hr11
  rotate_left
  ·simp [c12, c12M]
  refine ee_seq_condF (by simp [bV, c12, c12M]) ?_
  refine ee_seq_exit ?_
  obtain ⟨r16, q16, rfl⟩ := ms hr11
  simp only [pq, reduceCtorEq]
  rintro rfl
  try simp only [pq, reduceCtorEq]
  unfold Lslices_IndexFunc_of__api_Entry_api_Entry__replace_Accept_4_k1 at q16
  refine ee_seq_reg rfl (by simp [c12, c12M]; rfl) ?_
  refine ee_ret ?_
  obtain rfl := Option.some.inj q16
  simp [FinQ, c12, c12M]
def kp41_17 : Keep := fun i => ⟨[], [], []⟩
theorem w41_17 {T : Tab} (hT77 : T 77 = some G77_16) (a0 : (List Tapi_Entry)) (a1 : Tapi_Tx) (x : Bool) (hr : Lslices_ContainsFunc_of__api_Entry_api_Entry__replace_Accept_4 a0 a1 = some x) : ∃ kp fl n, execFn tt T G kp fl n Tryd.f41 (E41_17 (a0, a1)) = some (R41_17 (a0, a1) x) := by
 simp only [E41_17, R41_17]
 refine fnE (kp := kp41_17) (w := false) body41 ?_
 unfold c41
 rw [Tryd.ntmps41]
 unfold Lslices_ContainsFunc_of__api_Entry_api_Entry__replace_Accept_4 at hr
 refine ee_seq_reg rfl (by simp []; rfl) ?_
 obtain ⟨y2, hy2, hr⟩ := bs hr
 have ehy2 := G77_16_eq hy2
 simp only [E77_16, R77_16, nf, nfs] at ehy2
 refine ee_seq_reg rfl (by simp [hT77, ehy2]; rfl) ?_
 refine ee_ret ?_
 obtain rfl := Option.some.inj hr
 simp [FinQ, hT77, ehy2]
def kp40_18 : Keep := fun i => ⟨[], [], []⟩
theorem w40_18 {T : Tab} (hT41 : T 41 = some G41_17) (a0 : Tapi_Tx) (a1 : (List Tapi_Entry)) (x : Bool) (hr : Lreplace_Accept_1__replace_Accept_4_p a0 a1 = some x) : ∃ kp fl n, execFn tt T G kp fl n Tryd.f40 (E40_18 (a0, a1)) = some (R40_18 (a0, a1) x) := by
 simp only [E40_18, R40_18]
 refine fnE (kp := kp40_18) (w := false) body40 ?_
 unfold c40
 rw [Tryd.ntmps40]
 unfold Lreplace_Accept_1__replace_Accept_4_p at hr
 refine ee_seq_reg rfl (by simp []; rfl) ?_
 obtain ⟨y2, hy2, hr⟩ := bs hr
 have ehy2 := G41_17_eq hy2
 simp only [E41_17, R41_17, nf, nfs] at ehy2
 refine ee_seq_reg rfl (by simp [hT41, ehy2]; rfl) ?_
 refine ee_ret ?_
 obtain rfl := Option.some.inj hr
 simp [FinQ, hT41, ehy2]
def kp77_19 : Keep := fun i => if i = 2 then ⟨[0, 1, 7, 8], [], []⟩ else ⟨[], [], []⟩
theorem w77_19 {T : Tab} (hT49 : T 49 = some G49) (a0 : (List Tapi_Entry)) (x : Int) (hr : Lslices_IndexFunc_of__api_Entry_api_Entry__replace_Accept_5 a0 = some x) : ∃ kp fl n, execFn tt T G kp fl n Tryd.f77 (E77_19 a0) = some (R77_19 a0 x) := by
 simp only [E77_19, R77_19]
 refine fnE (kp := kp77_19) (w := false) body77 ?_
 unfold c77
 rw [Tryd.ntmps77]
 unfold Lslices_IndexFunc_of__api_Entry_api_Entry__replace_Accept_5 at hr
 refine ee_seq_reg rfl (by simp []; rfl) ?_
 refine ee_assoc ?_
 refine ee_seq_reg rfl (by simp []; rfl) ?_
 refine ee_seq_block ?_
 refine ee_loop (kq := ⟨[0, 1, 7, 8], [], []⟩) (H := fun (s : Int) => match s with | p6 => (⟨([.one (.slice .no (List.map eapi_Entry a0)), .fn 49] ++ (und 5 ++ ([.one (.v (.int .i64 (a0.length : Int))), .one (.v (.int .i64 p6))] ++ (und 10))) : List PV), ([] : Boxes)⟩ : ASt)) (by kernel_rfl) hr (by simp [und, List.replicate, ]) ?_
 rintro p6 x11r hr11
 simp only [Lslices_IndexFunc_of__api_Entry_api_Entry__replace_Accept_5_s1] at hr11
 unfold b77_1
 simp only [und, List.replicate, List.cons_append, List.nil_append]
 refine ee_seq_reg rfl (by simp []; rfl) ?_
 by_cases c12 : p6 < (a0.length : Int)
 ·skip
  have c12N := c12
  try simp at c12N
  first | have c12M : (_ = _) = True := eq_true c12N | have c12M := c12N
  rw [if_pos] at hr11
  rotate_left
  ·simp [c12, c12M]
  refine ee_seq_condT (by simp [bV, c12, c12M]) ?_
  refine ee_seq_skip ?_
  refine ee_seq_block ?_
  refine ee_seq_reg rfl (by simp [c12, c12M]; rfl) ?_
  obtain ⟨x13, hx13, hr11⟩ := bs hr11
  obtain ⟨hx13a, hx13b⟩ := idx_some hx13
  have hx13c := getE_of hx13b
  obtain ⟨y14, hy14, hr11⟩ := bs hr11
  have ehy14 := G49_eq hy14
  simp only [E49, R49, nf, nfs] at ehy14
  refine ee_seq_reg rfl (by simp [hx13a, hx13b, hx13c, hT49, ehy14, c12, c12M]; rfl) ?_
  by_cases c15 : y14 = true
  ·skip
   rw [if_pos c15] at hr11
   refine ee_condT (by simp [bV, c12, c12M, c15]) ?_
   refine ee_seq_reg rfl (by simp [c12, c12M, c15]; rfl) ?_
   refine ee_ret ?_
   obtain rfl := Option.some.inj hr11
   simp only [pq, reduceCtorEq]
   rintro rfl
   simp [FinQ, c12, c12M, c15]
  ·skip
   rw [if_neg c15] at hr11
   refine ee_condF (by simp [bV, c12, c12M, c15]) ?_
   refine ee_skip ?_
   simp only [pq, reduceCtorEq]
   refine ee_reg rfl (by simp [c12, c12M, c15]; rfl) ?_
   obtain rfl := Option.some.inj hr11
   simp only [pq, reduceCtorEq]
   simp [und, List.replicate, Nat.add_assoc, c12, c12M, c15]
 ·skip
  have c12N := c12
  try simp at c12N
  first | have c12M : (_ = _) = True := eq_true c12N | have c12M := c12N
  rw [if_neg] at hr11
  rotate_left
  ·simp [c12, c12M]
  refine ee_seq_condF (by simp [bV, c12, c12M]) ?_
  refine ee_seq_exit ?_
  obtain ⟨r16, q16, rfl⟩ := ms hr11
  simp only [pq, reduceCtorEq]
  rintro rfl
  try simp only [pq, reduceCtorEq]
  unfold Lslices_IndexFunc_of__api_Entry_api_Entry__replace_Accept_5_k1 at q16
  refine ee_seq_reg rfl (by simp [c12, c12M]; rfl) ?_
  refine ee_ret ?_
  obtain rfl := Option.some.inj q16
  simp [FinQ, c12, c12M]
def kp41_20 : Keep := fun i => ⟨[], [], []⟩
theorem w41_20 {T : Tab} (hT77 : T 77 = some G77_19) (a0 : (List Tapi_Entry)) (x : Bool) (hr : Lslices_ContainsFunc_of__api_Entry_api_Entry__replace_Accept_5 a0 = some x) : ∃ kp fl n, execFn tt T G kp fl n Tryd.f41 (E41_20 a0) = some (R41_20 a0 x) := by
 simp only [E41_20, R41_20]
 refine fnE (kp := kp41_20) (w := false) body41 ?_
 unfold c41
 rw [Tryd.ntmps41]
 unfold Lslices_ContainsFunc_of__api_Entry_api_Entry__replace_Accept_5 at hr
 refine ee_seq_reg rfl (by simp []; rfl) ?_
 obtain ⟨y2, hy2, hr⟩ := bs hr
 have ehy2 := G77_19_eq hy2
 simp only [E77_19, R77_19, nf, nfs] at ehy2
 refine ee_seq_reg rfl (by simp [hT77, ehy2]; rfl) ?_
 refine ee_ret ?_
 obtain rfl := Option.some.inj hr
 simp [FinQ, hT77, ehy2]
def kp40_21 : Keep := fun i => ⟨[], [], []⟩
theorem w40_21 {T : Tab} (hT41 : T 41 = some G41_20) (a0 : (List Tapi_Entry)) (x : Bool) (hr : Lreplace_Accept_1__replace_Accept_5_p a0 = some x) : ∃ kp fl n, execFn tt T G kp fl n Tryd.f40 (E40_21 a0) = some (R40_21 a0 x) := by
 simp only [E40_21, R40_21]
 refine fnE (kp := kp40_21) (w := false) body40 ?_
 unfold c40
 rw [Tryd.ntmps40]
 unfold Lreplace_Accept_1__replace_Accept_5_p at hr
 refine ee_seq_reg rfl (by simp []; rfl) ?_
 obtain ⟨y2, hy2, hr⟩ := bs hr
 have ehy2 := G41_20_eq hy2
 simp only [E41_20, R41_20, nf, nfs] at ehy2
 refine ee_seq_reg rfl (by simp [hT41, ehy2]; rfl) ?_
 refine ee_ret ?_
 obtain rfl := Option.some.inj hr
 simp [FinQ, hT41, ehy2]
def kp44_22 : Keep := fun i => ⟨[], [], []⟩
theorem w44_22 {T : Tab} (a0 : Tapi_Input) (a1 : (Arr 32)) (x : Bool) (hr : Lreplace_Accept_2_1__r a0 a1 = some x) : ∃ kp fl n, execFn tt T G kp fl n Tryd.f44 (E44_22 (a0, a1)) = some (R44_22 (a0, a1) x) := by
 simp only [E44_22, R44_22]
 refine fnE (kp := kp44_22) (w := false) body44 ?_
 unfold c44
 rw [Tryd.ntmps44]
 unfold Lreplace_Accept_2_1__r at hr
 refine ee_seq_reg rfl (by simp []; rfl) ?_
 refine ee_seq_reg rfl (by simp []; rfl) ?_
 refine ee_ret ?_
 obtain rfl := Option.some.inj hr
 simp [FinQ, ]
def kp73_23 : Keep := fun i => if i = 2 then ⟨[0, 1, 7, 8], [], []⟩ else ⟨[], [], []⟩
theorem w73_23 {T : Tab} (hT44 : T 44 = some G44_22) (a0 : (List Tapi_Input)) (a1 : (Arr 32)) (x : Int) (hr : Lslices_IndexFunc_of__api_Input_api_Input__replace_Accept_2_1 a0 a1 = some x) : ∃ kp fl n, execFn tt T G kp fl n Tryd.f73 (E73_23 (a0, a1)) = some (R73_23 (a0, a1) x) := by
 simp only [E73_23, R73_23]
 refine fnE (kp := kp73_23) (w := false) body73 ?_
 unfold c73
 rw [Tryd.ntmps73]
 unfold Lslices_IndexFunc_of__api_Input_api_Input__replace_Accept_2_1 at hr
 refine ee_seq_reg rfl (by simp []; rfl) ?_
 refine ee_assoc ?_
 refine ee_seq_reg rfl (by simp []; rfl) ?_
 refine ee_seq_block ?_
 refine ee_loop (kq := ⟨[0, 1, 7, 8], [], []⟩) (H := fun (s : Int) => match s with | p6 => (⟨([.one (.slice .no (List.map eapi_Input a0)), .clo 44 [.ref (arC .u8 a1)]] ++ (und 5 ++ ([.one (.v (.int .i64 (a0.length : Int))), .one (.v (.int .i64 p6))] ++ (und 10))) : List PV), ([] : Boxes)⟩ : ASt)) (by kernel_rfl) hr (by simp [und, List.replicate, ]) ?_
 rintro p6 x11r hr11
 simp only [Lslices_IndexFunc_of__api_Input_api_Input__replace_Accept_2_1_s1] at hr11
 unfold b73_1
 simp only [und, List.replicate, List.cons_append, List.nil_append]
 refine ee_seq_reg rfl (by simp []; rfl) ?_
 by_cases c12 : p6 < (a0.length : Int)
 ·skip
  have c12N := c12
  try simp at c12N
  first | have c12M : (_ = _) = True := eq_true c12N | have c12M := c12N
  rw [if_pos] at hr11
  rotate_left
  ·simp [c12, c12M]
  refine ee_seq_condT (by simp [bV, c12, c12M]) ?_
  refine ee_seq_skip ?_
  refine ee_seq_block ?_
  refine ee_seq_reg rfl (by simp [c12, c12M]; rfl) ?_
  obtain ⟨x13, hx13, hr11⟩ := bs hr11
  obtain ⟨hx13a, hx13b⟩ := idx_some hx13
  have hx13c := getE_of hx13b
  obtain ⟨y14, hy14, hr11⟩ := bs hr11
  have ehy14 := G44_22_eq hy14
  simp only [E44_22, R44_22, nf, nfs] at ehy14
  refine ee_seq_reg rfl (by simp [hx13a, hx13b, hx13c, hT44, ehy14, c12, c12M]; rfl) ?_
  by_cases c15 : y14 = true
  ·skip
   rw [if_pos c15] at hr11
   refine ee_condT (by simp [bV, c12, c12M, c15]) ?_
   refine ee_seq_reg rfl (by simp [c12, c12M, c15]; rfl) ?_
   refine ee_ret ?_
   obtain rfl := Option.some.inj hr11
   simp only [pq, reduceCtorEq]
   rintro rfl
   simp [FinQ, c12, c12M, c15]
  ·skip
   rw [if_neg c15] at hr11
   refine ee_condF (by simp [bV, c12, c12M, c15]) ?_
   refine ee_skip ?_
   simp only [pq, reduceCtorEq]
   refine ee_reg rfl (by simp [c12, c12M, c15]; rfl) ?_
   obtain rfl := Option.some.inj hr11
   simp only [pq, reduceCtorEq]
   simp [und, List.replicate, Nat.add_assoc, c12, c12M, c15]
 ·skip
  have c12N := c12
  try simp at c12N
  first | have c12M : (_ = _) = True := eq_true c12N | have c12M := c12N
  rw [if_neg] at hr11
  rotate_left
  ·simp [c12, c12M]
  refine ee_seq_condF (by simp [bV, c12, c12M]) ?_
  refine ee_seq_exit ?_
  obtain ⟨r16, q16, rfl⟩ := ms hr11
  simp only [pq, reduceCtorEq]
  rintro rfl
  try simp only [pq, reduceCtorEq]
  unfold Lslices_IndexFunc_of__api_Input_api_Input__replace_Accept_2_1_k1 at q16
  refine ee_seq_reg rfl (by simp [c12, c12M]; rfl) ?_
  refine ee_ret ?_
  obtain rfl := Option.some.inj q16
  simp [FinQ, c12, c12M]
def kp33_24 : Keep := fun i => ⟨[], [], []⟩
theorem w33_24 {T : Tab} (hT73 : T 73 = some G73_23) (a0 : (List Tapi_Input)) (a1 : (Arr 32)) (x : Bool) (hr : Lslices_ContainsFunc_of__api_Input_api_Input__replace_Accept_2_1 a0 a1 = some x) : ∃ kp fl n, execFn tt T G kp fl n Tryd.f33 (E33_24 (a0, a1)) = some (R33_24 (a0, a1) x) := by
 simp only [E33_24, R33_24]
 refine fnE (kp := kp33_24) (w := false) body33 ?_
 unfold c33
 rw [Tryd.ntmps33]
 unfold Lslices_ContainsFunc_of__api_Input_api_Input__replace_Accept_2_1 at hr
 refine ee_seq_reg rfl (by simp []; rfl) ?_
 obtain ⟨y2, hy2, hr⟩ := bs hr
 have ehy2 := G73_23_eq hy2
 simp only [E73_23, R73_23, nf, nfs] at ehy2
 refine ee_seq_reg rfl (by simp [hT73, ehy2]; rfl) ?_
 refine ee_ret ?_
 obtain rfl := Option.some.inj hr
 simp [FinQ, hT73, ehy2]
def kp42_25 : Keep := fun i => ⟨[], [], []⟩
theorem w42_25 {T : Tab} (hT33 : T 33 = some G33_24) (hT43 : T 43 = some G43) (a0 : Tapi_Entry) (a1 : Tapi_Tx) (x : Bool) (hr : Lreplace_Accept_2__r a0 a1 = some x) : ∃ kp fl n, execFn tt T G kp fl n Tryd.f42 (E42_25 (a0, a1)) = some (R42_25 (a0, a1) x) := by
 simp only [E42_25, R42_25]
 refine fnE (kp := kp42_25) (w := false) body42 ?_
 unfold c42
 rw [Tryd.ntmps42]
 unfold Lreplace_Accept_2__r at hr
 refine ee_seq_reg rfl (by simp []; rfl) ?_
 obtain ⟨y3, hy3, hr⟩ := bs hr
 have ehy3 := G43_eq hy3
 simp only [E43, R43, nf, nfs] at ehy3
 refine ee_seq_reg rfl (by simp [hT43, ehy3]; rfl) ?_
 obtain ⟨y4, hy4, hr⟩ := bs hr
 have ehy4 := G33_24_eq hy4
 simp only [E33_24, R33_24, nf, nfs] at ehy4
 refine ee_seq_reg rfl (by simp [hT33, ehy4]; rfl) ?_
 refine ee_ret ?_
 obtain rfl := Option.some.inj hr
 simp [FinQ, hT33, ehy4]
def kp77_26 : Keep := fun i => if i = 2 then ⟨[0, 1, 7, 8], [], []⟩ else ⟨[], [], []⟩
theorem w77_26 {T : Tab} (hT42 : T 42 = some G42_25) (a0 : (List Tapi_Entry)) (a1 : Tapi_Tx) (x : Int) (hr : Lslices_IndexFunc_of__api_Entry_api_Entry__replace_Accept_2 a0 a1 = some x) : ∃ kp fl n, execFn tt T G kp fl n Tryd.f77 (E77_26 (a0, a1)) = some (R77_26 (a0, a1) x) := by
 simp only [E77_26, R77_26]
 refine fnE (kp := kp77_26) (w := false) body77 ?_
 unfold c77
 rw [Tryd.ntmps77]
 unfold Lslices_IndexFunc_of__api_Entry_api_Entry__replace_Accept_2 at hr
 refine ee_seq_reg rfl (by simp []; rfl) ?_
 refine ee_assoc ?_
 refine ee_seq_reg rfl (by simp []; rfl) ?_
 refine ee_seq_block ?_
 refine ee_loop (kq := ⟨[0, 1, 7, 8], [], []⟩) (H := fun (s : Int) => match s with | p6 => (⟨([.one (.slice .no (List.map eapi_Entry a0)), .clo 42 [.ref ([.v (.int .u32 a1.1), .slice .no (List.map eapi_Input a1.2.1), .slice .no (List.map eapi_Output a1.2.2.1), .v (.int .u32 a1.2.2.2)])]] ++ (und 5 ++ ([.one (.v (.int .i64 (a0.length : Int))), .one (.v (.int .i64 p6))] ++ (und 10))) : List PV), ([] : Boxes)⟩ : ASt)) (by kernel_rfl) hr (by simp [und, List.replicate, ]) ?_
 rintro p6 x11r hr11
 simp only [Lslices_IndexFunc_of__api_Entry_api_Entry__replace_Accept_2_s1] at hr11
 unfold b77_1
 simp only [und, List.replicate, List.cons_append, List.nil_append]
 refine ee_seq_reg rfl (by simp []; rfl) ?_
 by_cases c12 : p6 < (a0.length : Int)
 ·skip
  have c12N := c12
  try simp at c12N
  first | have c12M : (_ = _) = True := eq_true c12N | have c12M := c12N
  rw [if_pos] at hr11
  rotate_left
  ·simp [c12, c12M]
  refine ee_seq_condT (by simp [bV, c12, c12M]) ?_
  refine ee_seq_skip ?_
  refine ee_seq_block ?_
  refine ee_seq_reg rfl (by simp [c12, c12M]; rfl) ?_
  obtain ⟨x13, hx13, hr11⟩ := bs hr11
  obtain ⟨hx13a, hx13b⟩ := idx_some hx13
  have hx13c := getE_of hx13b
  obtain ⟨y14, hy14, hr11⟩ := bs hr11
  have ehy14 := G42_25_eq hy14
  simp only [E42_25, R42_25, nf, nfs] at ehy14
  refine ee_seq_reg rfl (by simp [hx13a, hx13b, hx13c, hT42, ehy14, c12, c12M]; rfl) ?_
  by_cases c15 : y14 = true
  ·skip
   rw [if_pos c15] at hr11
   refine ee_condT (by simp [bV, c12, c12M, c15]) ?_
   refine ee_seq_reg rfl (by simp [c12, c12M, c15]; rfl) ?_
   refine ee_ret ?_
   obtain rfl := Option.some.inj hr11
   simp only [pq, reduceCtorEq]
   rintro rfl
   simp [FinQ, c12, c12M, c15]
  ·skip
   rw [if_neg c15] at hr11
   refine ee_condF (by simp [bV, c12, c12M, c15]) ?_
   refine ee_skip ?_
   simp only [pq, reduceCtorEq]
   refine ee_reg rfl (by simp [c12, c12M, c15]; rfl) ?_
   obtain rfl := Option.some.inj hr11
   simp only [pq, reduceCtorEq]
   simp [und, List.replicate, Nat.add_assoc, c12, c12M, c15]
 ·skip
  have c12N := c12
  try simp at c12N
  first | have c12M : (_ = _) = True := eq_true c12N | have c12M := c12N
  rw [if_neg] at hr11
  rotate_left
  ·simp [c12, c12M]
  refine ee_seq_condF (by simp [bV, c12, c12M]) ?_
  refine ee_seq_exit ?_
  obtain ⟨r16, q16, rfl⟩ := ms hr11
  simp only [pq, reduceCtorEq]
  rintro rfl
  try simp only [pq, reduceCtorEq]
  unfold Lslices_IndexFunc_of__api_Entry_api_Entry__replace_Accept_2_k1 at q16
  refine ee_seq_reg rfl (by simp [c12, c12M]; rfl) ?_
  refine ee_ret ?_
  obtain rfl := Option.some.inj q16
  simp [FinQ, c12, c12M]
def kp41_27 : Keep := fun i => ⟨[], [], []⟩
theorem w41_27 {T : Tab} (hT77 : T 77 = some G77_26) (a0 : (List Tapi_Entry)) (a1 : Tapi_Tx) (x : Bool) (hr : Lslices_ContainsFunc_of__api_Entry_api_Entry__replace_Accept_2 a0 a1 = some x) : ∃ kp fl n, execFn tt T G kp fl n Tryd.f41 (E41_27 (a0, a1)) = some (R41_27 (a0, a1) x) := by
 simp only [E41_27, R41_27]
 refine fnE (kp := kp41_27) (w := false) body41 ?_
 unfold c41
 rw [Tryd.ntmps41]
 unfold Lslices_ContainsFunc_of__api_Entry_api_Entry__replace_Accept_2 at hr
 refine ee_seq_reg rfl (by simp []; rfl) ?_
 obtain ⟨y2, hy2, hr⟩ := bs hr
 have ehy2 := G77_26_eq hy2
 simp only [E77_26, R77_26, nf, nfs] at ehy2
 refine ee_seq_reg rfl (by simp [hT77, ehy2]; rfl) ?_
 refine ee_ret ?_
 obtain rfl := Option.some.inj hr
 simp [FinQ, hT77, ehy2]
def kp40_28 : Keep := fun i => ⟨[], [], []⟩
theorem w40_28 {T : Tab} (hT41 : T 41 = some G41_27) (a0 : Tapi_Tx) (a1 : (List Tapi_Entry)) (x : Bool) (hr : Lreplace_Accept_1__replace_Accept_2_p a0 a1 = some x) : ∃ kp fl n, execFn tt T G kp fl n Tryd.f40 (E40_28 (a0, a1)) = some (R40_28 (a0, a1) x) := by
 simp only [E40_28, R40_28]
 refine fnE (kp := kp40_28) (w := false) body40 ?_
 unfold c40
 rw [Tryd.ntmps40]
 unfold Lreplace_Accept_1__replace_Accept_2_p at hr
 refine ee_seq_reg rfl (by simp []; rfl) ?_
 obtain ⟨y2, hy2, hr⟩ := bs hr
 have ehy2 := G41_27_eq hy2
 simp only [E41_27, R41_27, nf, nfs] at ehy2
 refine ee_seq_reg rfl (by simp [hT41, ehy2]; rfl) ?_
 refine ee_ret ?_
 obtain rfl := Option.some.inj hr
 simp [FinQ, hT41, ehy2]
def kp18 : Keep := fun i => ⟨[], [], []⟩
theorem w18 {T : Tab} (hT39 : T 39 = some G39) (hT40 : T 40 = some (gor G40_28 (gor G40_18 (gor G40_14 G40_21)))) (hT45 : T 45 = some G45) (hT46 : T 46 = some G46) (hT50 : T 50 = some G50) (a0 : (List Tapi_Entry)) (a1 : Tapi_Tx) (a2 : Int) (x : Int) (hr : Lreplace_Accept a0 a1 a2 = some x) : ∃ kp fl n, execFn tt T G kp fl n Tryd.f18 (E18 (a0, a1, a2)) = some (R18 (a0, a1, a2) x) := by
 simp only [E18, R18]
 refine fnE (kp := kp18) (w := false) body18 ?_
 unfold c18
 rw [Tryd.ntmps18]
 unfold Lreplace_Accept at hr
 refine ee_seq_reg rfl (by simp []; rfl) ?_
 refine ee_assoc ?_
 obtain ⟨y10, hy10, hr⟩ := bs hr
 have ehy10 := G39_eq hy10
 simp only [E39, R39, nf, nfs] at ehy10
 refine ee_seq_reg rfl (by simp [hT39, ehy10]; rfl) ?_
 refine ee_assoc ?_
 refine ee_seq_reg rfl (by simp []; rfl) ?_
 by_cases c11 : y10 = 0
 ·skip
  rw [if_neg (not_not_intro c11)] at hr
  refine ee_seq_condF (by simp [bV, eq_true c11]) ?_
  refine ee_seq_skip ?_
  refine ee_seq_reg rfl (by simp [eq_true c11]; rfl) ?_
  refine ee_seq_reg rfl (by simp [eq_true c11]; rfl) ?_
  refine ee_seq_block ?_
  obtain ⟨y12, hy12, hr⟩ := bs hr
  have ehy12 := G45_eq hy12
  simp only [E45, R45, nf, nfs] at ehy12
  refine ee_seq_reg rfl (by simp [hT45, ehy12, eq_true c11]; rfl) ?_
  by_cases c13 : y12 = true
  ·skip
   rw [if_pos c13] at hr
   refine ee_condT (by simp [bV, eq_true c11, c13]) ?_
   refine ee_seq_reg rfl (by simp [eq_true c11, c13]; rfl) ?_
   refine ee_ret ?_
   obtain rfl := Option.some.inj hr
   simp [FinQ, eq_true c11, c13]
  ·skip
   rw [if_neg c13] at hr
   refine ee_condF (by simp [bV, eq_true c11, c13]) ?_
   obtain ⟨y14, hy14, hr⟩ := bs hr
   have ehy14 := G46_eq hy14
   simp only [E46, R46, nf, nfs] at ehy14
   by_cases c15 : y14 = true
   ·skip
    rw [if_neg] at hr
    rotate_left
    ·simp [eq_true c11, c13, c15]
    obtain ⟨z16, hz16, hr⟩ := bs hr
    obtain ⟨y17, hy17, hz16⟩ := bs hz16
    have ehy17 := gor_r (g := G40_28) (by unfold G40_28; exact lift_none (by rintro a h; simp [E40_28, E40_14,nf] at h)) (gor_r (g := G40_18) (by unfold G40_18; exact lift_none (by rintro a h; simp [E40_18, E40_14,nf] at h)) (gor_l (h := G40_21) (G40_14_eq hy17)))
    simp only [E40_14, R40_14, nf, nfs] at ehy17
    obtain rfl := Option.some.inj hz16
    refine ee_seq_reg rfl (by simp [hT46, ehy14, hT40, ehy17, eq_true c11, c13, c15]; rfl) ?_
    by_cases c18 : y17 = true
    ·skip
     rw [if_pos] at hr
     rotate_left
     ·simp [eq_true c11, c13, c15, c18]
     refine ee_condT (by simp [bV, eq_true c11, c13, c15, c18]) ?_
     refine ee_seq_reg rfl (by simp [eq_true c11, c13, c15, c18]; rfl) ?_
     refine ee_ret ?_
     obtain rfl := Option.some.inj hr
     simp [FinQ, eq_true c11, c13, c15, c18]
    ·skip
     rw [if_neg] at hr
     rotate_left
     ·simp [eq_true c11, c13, c15, c18]
     refine ee_condF (by simp [bV, eq_true c11, c13, c15, c18]) ?_
     obtain ⟨y19, hy19, hr⟩ := bs hr
     have ehy19 := gor_r (g := G40_28) (by unfold G40_28; exact lift_none (by rintro a h; simp [E40_28, E40_18,nf] at h)) (gor_l (h := (gor G40_14 G40_21)) (G40_18_eq hy19))
     simp only [E40_18, R40_18, nf, nfs] at ehy19
     refine ee_seq_reg rfl (by simp [hT40, ehy19, eq_true c11, c13, c15, c18]; rfl) ?_
     by_cases c20 : y19 = true
     ·skip
      rw [if_pos c20] at hr
      refine ee_condT (by simp [bV, eq_true c11, c13, c15, c18, c20]) ?_
      refine ee_seq_reg rfl (by simp [eq_true c11, c13, c15, c18, c20]; rfl) ?_
      refine ee_ret ?_
      obtain rfl := Option.some.inj hr
      simp [FinQ, eq_true c11, c13, c15, c18, c20]
     ·skip
      rw [if_neg c20] at hr
      refine ee_condF (by simp [bV, eq_true c11, c13, c15, c18, c20]) ?_
      obtain ⟨y21, hy21, hr⟩ := bs hr
      have ehy21 := gor_r (g := G40_28) (by unfold G40_28; exact lift_none (by rintro a h; simp [E40_28, E40_21,nf] at h)) (gor_r (g := G40_18) (by unfold G40_18; exact lift_none (by rintro a h; simp [E40_18, E40_21,nf] at h)) (gor_r (g := G40_14) (by unfold G40_14; exact lift_none (by rintro a h; simp [E40_14, E40_21,nf] at h)) (G40_21_eq hy21)))
      simp only [E40_21, R40_21, nf, nfs] at ehy21
      refine ee_seq_reg rfl (by simp [hT40, ehy21, eq_true c11, c13, c15, c18, c20]; rfl) ?_
      by_cases c22 : y21 = true
      ·skip
       rw [if_pos c22] at hr
       refine ee_condT (by simp [bV, eq_true c11, c13, c15, c18, c20, c22]) ?_
       refine ee_seq_reg rfl (by simp [eq_true c11, c13, c15, c18, c20, c22]; rfl) ?_
       refine ee_ret ?_
       obtain rfl := Option.some.inj hr
       simp [FinQ, eq_true c11, c13, c15, c18, c20, c22]
      ·skip
       rw [if_neg c22] at hr
       refine ee_condF (by simp [bV, eq_true c11, c13, c15, c18, c20, c22]) ?_
       obtain ⟨y23, hy23, hr⟩ := bs hr
       have ehy23 := gor_l (h := (gor G40_18 (gor G40_14 G40_21))) (G40_28_eq hy23)
       simp only [E40_28, R40_28, nf, nfs] at ehy23
       refine ee_seq_reg rfl (by simp [hT40, ehy23, eq_true c11, c13, c15, c18, c20, c22]; rfl) ?_
       by_cases c24 : y23 = true
       ·skip
        rw [if_pos c24] at hr
        refine ee_condT (by simp [bV, eq_true c11, c13, c15, c18, c20, c22, c24]) ?_
        refine ee_seq_reg rfl (by simp [eq_true c11, c13, c15, c18, c20, c22, c24]; rfl) ?_
        refine ee_ret ?_
        obtain rfl := Option.some.inj hr
        simp [FinQ, eq_true c11, c13, c15, c18, c20, c22, c24]
       ·skip
        rw [if_neg c24] at hr
        refine ee_condF (by simp [bV, eq_true c11, c13, c15, c18, c20, c22, c24]) ?_
        obtain ⟨y25, hy25, hr⟩ := bs hr
        have ehy25 := G50_eq hy25
        simp only [E50, R50, nf, nfs] at ehy25
        refine ee_seq_reg rfl (by simp [hT50, ehy25, eq_true c11, c13, c15, c18, c20, c22, c24]; rfl) ?_
        by_cases c26 : y25 = true
        ·skip
         rw [if_neg (not_not_intro c26)] at hr
         refine ee_condF (by simp [bV, eq_true c11, c13, c15, c18, c20, c22, c24, c26]) ?_
         refine ee_skip ?_
         simp only [pq, reduceCtorEq]
         refine ee_seq_reg rfl (by simp [eq_true c11, c13, c15, c18, c20, c22, c24, c26]; rfl) ?_
         refine ee_ret ?_
         obtain rfl := Option.some.inj hr
         simp [FinQ, eq_true c11, c13, c15, c18, c20, c22, c24, c26]
        ·skip
         rw [if_pos c26] at hr
         refine ee_condT (by simp [bV, eq_true c11, c13, c15, c18, c20, c22, c24, c26]) ?_
         refine ee_seq_reg rfl (by simp [eq_true c11, c13, c15, c18, c20, c22, c24, c26]; rfl) ?_
         refine ee_ret ?_
         obtain rfl := Option.some.inj hr
         simp [FinQ, eq_true c11, c13, c15, c18, c20, c22, c24, c26]
   ·skip
    rw [if_pos] at hr
    rotate_left
    ·simp [eq_true c11, c13, c15]
    obtain ⟨z27, hz27, hr⟩ := bs hr
    obtain rfl := Option.some.inj hz27
    refine ee_seq_reg rfl (by simp [hT46, ehy14, eq_true c11, c13, c15]; rfl) ?_
    rw [if_pos] at hr
    rotate_left
    ·simp [eq_true c11, c13, c15]
    refine ee_condT (by simp [bV, eq_true c11, c13, c15]) ?_
    refine ee_seq_reg rfl (by simp [eq_true c11, c13, c15]; rfl) ?_
    refine ee_ret ?_
    obtain rfl := Option.some.inj hr
    simp [FinQ, eq_true c11, c13, c15]
 ·skip
  rw [if_pos c11] at hr
  refine ee_seq_condT (by simp [bV, c11]) ?_
  refine ee_assoc ?_
  refine ee_seq_reg rfl (by simp [c11]; rfl) ?_
  refine ee_seq_ret ?_
  obtain rfl := Option.some.inj hr
  simp [FinQ, c11]
end Go.Proofs.YtconfbgcjkjnkaaDoor
