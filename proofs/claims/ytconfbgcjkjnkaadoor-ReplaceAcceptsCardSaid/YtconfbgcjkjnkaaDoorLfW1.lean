import Derived.Test.YtconfbgcjkjnkaaDoorLfK
import Derived.Test.YtconfbgcjkjnkaaDoorCode
namespace Go.Proofs.YtconfbgcjkjnkaaDoor
open Go.RowKit
open Go.Av
open Go.Lc
set_option maxRecDepth 100000
set_option linter.unusedSimpArgs false
set_option linter.unusedVariables false
set_option maxHeartbeats 4000000
def kp34 : Keep := fun i => ⟨[], [], []⟩
theorem w34 {T : Tab} (a0 : Tapi_Input) (x : Bool) (hr : Lreplace_Signals_1 a0 = some x) : ∃ kp fl n, execFn tt T G kp fl n Tryd.f34 (E34 a0) = some (R34 a0 x) := by
 simp only [E34, R34]
 refine fnE (kp := kp34) (w := false) body34 ?_
 unfold c34
 rw [Tryd.ntmps34]
 unfold Lreplace_Signals_1 at hr
 refine ee_seq_reg rfl (by simp []; rfl) ?_
 refine ee_seq_reg rfl (by simp []; rfl) ?_
 refine ee_ret ?_
 obtain rfl := Option.some.inj hr
 simp [FinQ, ]
def kp73_1 : Keep := fun i => if i = 2 then ⟨[0, 1, 7, 8], [], []⟩ else ⟨[], [], []⟩
theorem w73_1 {T : Tab} (hT34 : T 34 = some G34) (a0 : (List Tapi_Input)) (x : Int) (hr : Lslices_IndexFunc_of__api_Input_api_Input__replace_Signals_1 a0 = some x) : ∃ kp fl n, execFn tt T G kp fl n Tryd.f73 (E73_1 a0) = some (R73_1 a0 x) := by
 simp only [E73_1, R73_1]
 refine fnE (kp := kp73_1) (w := false) body73 ?_
 unfold c73
 rw [Tryd.ntmps73]
 unfold Lslices_IndexFunc_of__api_Input_api_Input__replace_Signals_1 at hr
 refine ee_seq_reg rfl (by simp []; rfl) ?_
 refine ee_assoc ?_
 refine ee_seq_reg rfl (by simp []; rfl) ?_
 refine ee_seq_block ?_
 refine ee_loop (kq := ⟨[0, 1, 7, 8], [], []⟩) (H := fun (s : Int) => match s with | p6 => (⟨([.one (.slice .no (List.map eapi_Input a0)), .fn 34] ++ (und 5 ++ ([.one (.v (.int .i64 (a0.length : Int))), .one (.v (.int .i64 p6))] ++ (und 10))) : List PV), ([] : Boxes)⟩ : ASt)) (by kernel_rfl) hr (by simp [und, List.replicate, ]) ?_
 rintro p6 x11r hr11
 simp only [Lslices_IndexFunc_of__api_Input_api_Input__replace_Signals_1_s1] at hr11
 unfold b73_1
 simp only [und, List.replicate, List.cons_append, List.nil_append]
 refine ee_seq_reg rfl (by simp []; rfl) ?_
 by_cases c12 : p6 < (a0.length : Int)
 ·skip
  have c12N := c12
  try simp at c12N
  first | have c12M : (_ = _) = True := eq_true c12N | have c12M := c12N
  rw [if_pos] at hr11
  rotate_left
  ·simp [c12, c12M]
  refine ee_seq_condT (by simp [bV, c12, c12M]) ?_
  refine ee_seq_skip ?_
  refine ee_seq_block ?_
  refine ee_seq_reg rfl (by simp [c12, c12M]; rfl) ?_
  obtain ⟨x13, hx13, hr11⟩ := bs hr11
  obtain ⟨hx13a, hx13b⟩ := idx_some hx13
  have hx13c := getE_of hx13b
  obtain ⟨y14, hy14, hr11⟩ := bs hr11
  have ehy14 := G34_eq hy14
  simp only [E34, R34, nf, nfs] at ehy14
  refine ee_seq_reg rfl (by simp [hx13a, hx13b, hx13c, hT34, ehy14, c12, c12M]; rfl) ?_
  by_cases c15 : y14 = true
  ·skip
   rw [if_pos c15] at hr11
   refine ee_condT (by simp [bV, c12, c12M, c15]) ?_
   refine ee_seq_reg rfl (by simp [c12, c12M, c15]; rfl) ?_
   refine ee_ret ?_
   obtain rfl := Option.some.inj hr11
   simp only [pq, reduceCtorEq]
   rintro rfl
   simp [FinQ, c12, c12M, c15]
  ·skip
   rw [if_neg c15] at hr11
   refine ee_condF (by simp [bV, c12, c12M, c15]) ?_
   refine ee_skip ?_
   simp only [pq, reduceCtorEq]
   refine ee_reg rfl (by simp [c12, c12M, c15]; rfl) ?_
   obtain rfl := Option.some.inj hr11
   simp only [pq, reduceCtorEq]
   simp [und, List.replicate, Nat.add_assoc, c12, c12M, c15]
 ·skip
  have c12N := c12
  try simp at c12N
  first | have c12M : (_ = _) = True := eq_true c12N | have c12M := c12N
  rw [if_neg] at hr11
  rotate_left
  ·simp [c12, c12M]
  refine ee_seq_condF (by simp [bV, c12, c12M]) ?_
  refine ee_seq_exit ?_
  obtain ⟨r16, q16, rfl⟩ := ms hr11
  simp only [pq, reduceCtorEq]
  rintro rfl
  try simp only [pq, reduceCtorEq]
  unfold Lslices_IndexFunc_of__api_Input_api_Input__replace_Signals_1_k1 at q16
  refine ee_seq_reg rfl (by simp [c12, c12M]; rfl) ?_
  refine ee_ret ?_
  obtain rfl := Option.some.inj q16
  simp [FinQ, c12, c12M]
def kp33_2 : Keep := fun i => ⟨[], [], []⟩
theorem w33_2 {T : Tab} (hT73 : T 73 = some G73_1) (a0 : (List Tapi_Input)) (x : Bool) (hr : Lslices_ContainsFunc_of__api_Input_api_Input__replace_Signals_1 a0 = some x) : ∃ kp fl n, execFn tt T G kp fl n Tryd.f33 (E33_2 a0) = some (R33_2 a0 x) := by
 simp only [E33_2, R33_2]
 refine fnE (kp := kp33_2) (w := false) body33 ?_
 unfold c33
 rw [Tryd.ntmps33]
 unfold Lslices_ContainsFunc_of__api_Input_api_Input__replace_Signals_1 at hr
 refine ee_seq_reg rfl (by simp []; rfl) ?_
 obtain ⟨y2, hy2, hr⟩ := bs hr
 have ehy2 := G73_1_eq hy2
 simp only [E73_1, R73_1, nf, nfs] at ehy2
 refine ee_seq_reg rfl (by simp [hT73, ehy2]; rfl) ?_
 refine ee_ret ?_
 obtain rfl := Option.some.inj hr
 simp [FinQ, hT73, ehy2]
def kp11 : Keep := fun i => ⟨[], [], []⟩
theorem w11 {T : Tab} (hT33 : T 33 = some G33_2) (a0 : Tapi_Tx) (x : Bool) (hr : Lreplace_Signals a0 = some x) : ∃ kp fl n, execFn tt T G kp fl n Tryd.f11 (E11 a0) = some (R11 a0 x) := by
 simp only [E11, R11]
 refine fnE (kp := kp11) (w := false) body11 ?_
 unfold c11
 rw [Tryd.ntmps11]
 unfold Lreplace_Signals at hr
 refine ee_seq_reg rfl (by simp []; rfl) ?_
 obtain ⟨y2, hy2, hr⟩ := bs hr
 have ehy2 := G33_2_eq hy2
 simp only [E33_2, R33_2, nf, nfs] at ehy2
 refine ee_seq_reg rfl (by simp [hT33, ehy2]; rfl) ?_
 refine ee_ret ?_
 obtain rfl := Option.some.inj hr
 simp [FinQ, hT33, ehy2]
def kp36_3 : Keep := fun i => ⟨[], [], []⟩
theorem w36_3 {T : Tab} (a0 : Tapi_Input) (a1 : Tapi_Input) (x : Bool) (hr : Lreplace_Conflict_1_1__r a0 a1 = some x) : ∃ kp fl n, execFn tt T G kp fl n Tryd.f36 (E36_3 (a0, a1)) = some (R36_3 (a0, a1) x) := by
 simp only [E36_3, R36_3]
 refine fnE (kp := kp36_3) (w := false) body36 ?_
 unfold c36
 rw [Tryd.ntmps36]
 unfold Lreplace_Conflict_1_1__r at hr
 refine ee_seq_reg rfl (by simp []; rfl) ?_
 refine ee_seq_reg rfl (by simp []; rfl) ?_
 refine ee_ret ?_
 obtain rfl := Option.some.inj hr
 simp [FinQ, ]
def kp73_4 : Keep := fun i => if i = 2 then ⟨[0, 1, 7, 8], [], []⟩ else ⟨[], [], []⟩
theorem w73_4 {T : Tab} (hT36 : T 36 = some G36_3) (a0 : (List Tapi_Input)) (a1 : Tapi_Input) (x : Int) (hr : Lslices_IndexFunc_of__api_Input_api_Input__replace_Conflict_1_1 a0 a1 = some x) : ∃ kp fl n, execFn tt T G kp fl n Tryd.f73 (E73_4 (a0, a1)) = some (R73_4 (a0, a1) x) := by
 simp only [E73_4, R73_4]
 refine fnE (kp := kp73_4) (w := false) body73 ?_
 unfold c73
 rw [Tryd.ntmps73]
 unfold Lslices_IndexFunc_of__api_Input_api_Input__replace_Conflict_1_1 at hr
 refine ee_seq_reg rfl (by simp []; rfl) ?_
 refine ee_assoc ?_
 refine ee_seq_reg rfl (by simp []; rfl) ?_
 refine ee_seq_block ?_
 refine ee_loop (kq := ⟨[0, 1, 7, 8], [], []⟩) (H := fun (s : Int) => match s with | p6 => (⟨([.one (.slice .no (List.map eapi_Input a0)), .clo 36 [.ref ((arC .u8 a1.1.1) ++ ((.v (.int .u32 a1.1.2)) :: ((.v (.int .u32 a1.2.1)) :: ((.slice .no (List.map eS_I_u8 a1.2.2)) :: []))))]] ++ (und 5 ++ ([.one (.v (.int .i64 (a0.length : Int))), .one (.v (.int .i64 p6))] ++ (und 10))) : List PV), ([] : Boxes)⟩ : ASt)) (by kernel_rfl) hr (by simp [und, List.replicate, ]) ?_
 rintro p6 x11r hr11
 simp only [Lslices_IndexFunc_of__api_Input_api_Input__replace_Conflict_1_1_s1] at hr11
 unfold b73_1
 simp only [und, List.replicate, List.cons_append, List.nil_append]
 refine ee_seq_reg rfl (by simp []; rfl) ?_
 by_cases c12 : p6 < (a0.length : Int)
 ·skip
  have c12N := c12
  try simp at c12N
  first | have c12M : (_ = _) = True := eq_true c12N | have c12M := c12N
  rw [if_pos] at hr11
  rotate_left
  ·simp [c12, c12M]
  refine ee_seq_condT (by simp [bV, c12, c12M]) ?_
  refine ee_seq_skip ?_
  refine ee_seq_block ?_
  refine ee_seq_reg rfl (by simp [c12, c12M]; rfl) ?_
  obtain ⟨x13, hx13, hr11⟩ := bs hr11
  obtain ⟨hx13a, hx13b⟩ := idx_some hx13
  have hx13c := getE_of hx13b
  obtain ⟨y14, hy14, hr11⟩ := bs hr11
  have ehy14 := G36_3_eq hy14
  simp only [E36_3, R36_3, nf, nfs] at ehy14
  refine ee_seq_reg rfl (by simp [hx13a, hx13b, hx13c, hT36, ehy14, c12, c12M]; rfl) ?_
  by_cases c15 : y14 = true
  ·skip
   rw [if_pos c15] at hr11
   refine ee_condT (by simp [bV, c12, c12M, c15]) ?_
   refine ee_seq_reg rfl (by simp [c12, c12M, c15]; rfl) ?_
   refine ee_ret ?_
   obtain rfl := Option.some.inj hr11
   simp only [pq, reduceCtorEq]
   rintro rfl
   simp [FinQ, c12, c12M, c15]
  ·skip
   rw [if_neg c15] at hr11
   refine ee_condF (by simp [bV, c12, c12M, c15]) ?_
   refine ee_skip ?_
   simp only [pq, reduceCtorEq]
   refine ee_reg rfl (by simp [c12, c12M, c15]; rfl) ?_
   obtain rfl := Option.some.inj hr11
   simp only [pq, reduceCtorEq]
   simp [und, List.replicate, Nat.add_assoc, c12, c12M, c15]
 ·skip
  have c12N := c12
  try simp at c12N
  first | have c12M : (_ = _) = True := eq_true c12N | have c12M := c12N
  rw [if_neg] at hr11
  rotate_left
  ·simp [c12, c12M]
  refine ee_seq_condF (by simp [bV, c12, c12M]) ?_
  refine ee_seq_exit ?_
  obtain ⟨r16, q16, rfl⟩ := ms hr11
  simp only [pq, reduceCtorEq]
  rintro rfl
  try simp only [pq, reduceCtorEq]
  unfold Lslices_IndexFunc_of__api_Input_api_Input__replace_Conflict_1_1_k1 at q16
  refine ee_seq_reg rfl (by simp [c12, c12M]; rfl) ?_
  refine ee_ret ?_
  obtain rfl := Option.some.inj q16
  simp [FinQ, c12, c12M]
def kp33_5 : Keep := fun i => ⟨[], [], []⟩
theorem w33_5 {T : Tab} (hT73 : T 73 = some G73_4) (a0 : (List Tapi_Input)) (a1 : Tapi_Input) (x : Bool) (hr : Lslices_ContainsFunc_of__api_Input_api_Input__replace_Conflict_1_1 a0 a1 = some x) : ∃ kp fl n, execFn tt T G kp fl n Tryd.f33 (E33_5 (a0, a1)) = some (R33_5 (a0, a1) x) := by
 simp only [E33_5, R33_5]
 refine fnE (kp := kp33_5) (w := false) body33 ?_
 unfold c33
 rw [Tryd.ntmps33]
 unfold Lslices_ContainsFunc_of__api_Input_api_Input__replace_Conflict_1_1 at hr
 refine ee_seq_reg rfl (by simp []; rfl) ?_
 obtain ⟨y2, hy2, hr⟩ := bs hr
 have ehy2 := G73_4_eq hy2
 simp only [E73_4, R73_4, nf, nfs] at ehy2
 refine ee_seq_reg rfl (by simp [hT73, ehy2]; rfl) ?_
 refine ee_ret ?_
 obtain rfl := Option.some.inj hr
 simp [FinQ, hT73, ehy2]
def kp35_6 : Keep := fun i => ⟨[], [], []⟩
theorem w35_6 {T : Tab} (hT33 : T 33 = some G33_5) (a0 : Tapi_Input) (a1 : Tapi_Tx) (x : Bool) (hr : Lreplace_Conflict_1__r a0 a1 = some x) : ∃ kp fl n, execFn tt T G kp fl n Tryd.f35 (E35_6 (a0, a1)) = some (R35_6 (a0, a1) x) := by
 simp only [E35_6, R35_6]
 refine fnE (kp := kp35_6) (w := false) body35 ?_
 unfold c35
 rw [Tryd.ntmps35]
 unfold Lreplace_Conflict_1__r at hr
 refine ee_seq_reg rfl (by simp []; rfl) ?_
 obtain ⟨y2, hy2, hr⟩ := bs hr
 have ehy2 := G33_5_eq hy2
 simp only [E33_5, R33_5, nf, nfs] at ehy2
 refine ee_seq_reg rfl (by simp [hT33, ehy2]; rfl) ?_
 refine ee_ret ?_
 obtain rfl := Option.some.inj hr
 simp [FinQ, hT33, ehy2]
def kp73_7 : Keep := fun i => if i = 2 then ⟨[0, 1, 7, 8], [], []⟩ else ⟨[], [], []⟩
theorem w73_7 {T : Tab} (hT35 : T 35 = some G35_6) (a0 : (List Tapi_Input)) (a1 : Tapi_Tx) (x : Int) (hr : Lslices_IndexFunc_of__api_Input_api_Input__replace_Conflict_1 a0 a1 = some x) : ∃ kp fl n, execFn tt T G kp fl n Tryd.f73 (E73_7 (a0, a1)) = some (R73_7 (a0, a1) x) := by
 simp only [E73_7, R73_7]
 refine fnE (kp := kp73_7) (w := false) body73 ?_
 unfold c73
 rw [Tryd.ntmps73]
 unfold Lslices_IndexFunc_of__api_Input_api_Input__replace_Conflict_1 at hr
 refine ee_seq_reg rfl (by simp []; rfl) ?_
 refine ee_assoc ?_
 refine ee_seq_reg rfl (by simp []; rfl) ?_
 refine ee_seq_block ?_
 refine ee_loop (kq := ⟨[0, 1, 7, 8], [], []⟩) (H := fun (s : Int) => match s with | p6 => (⟨([.one (.slice .no (List.map eapi_Input a0)), .clo 35 [.ref ([.v (.int .u32 a1.1), .slice .no (List.map eapi_Input a1.2.1), .slice .no (List.map eapi_Output a1.2.2.1), .v (.int .u32 a1.2.2.2)])]] ++ (und 5 ++ ([.one (.v (.int .i64 (a0.length : Int))), .one (.v (.int .i64 p6))] ++ (und 10))) : List PV), ([] : Boxes)⟩ : ASt)) (by kernel_rfl) hr (by simp [und, List.replicate, ]) ?_
 rintro p6 x11r hr11
 simp only [Lslices_IndexFunc_of__api_Input_api_Input__replace_Conflict_1_s1] at hr11
 unfold b73_1
 simp only [und, List.replicate, List.cons_append, List.nil_append]
 refine ee_seq_reg rfl (by simp []; rfl) ?_
 by_cases c12 : p6 < (a0.length : Int)
 ·skip
  have c12N := c12
  try simp at c12N
  first | have c12M : (_ = _) = True := eq_true c12N | have c12M := c12N
  rw [if_pos] at hr11
  rotate_left
  ·simp [c12, c12M]
  refine ee_seq_condT (by simp [bV, c12, c12M]) ?_
  refine ee_seq_skip ?_
  refine ee_seq_block ?_
  refine ee_seq_reg rfl (by simp [c12, c12M]; rfl) ?_
  obtain ⟨x13, hx13, hr11⟩ := bs hr11
  obtain ⟨hx13a, hx13b⟩ := idx_some hx13
  have hx13c := getE_of hx13b
  obtain ⟨y14, hy14, hr11⟩ := bs hr11
  have ehy14 := G35_6_eq hy14
  simp only [E35_6, R35_6, nf, nfs] at ehy14
  refine ee_seq_reg rfl (by simp [hx13a, hx13b, hx13c, hT35, ehy14, c12, c12M]; rfl) ?_
  by_cases c15 : y14 = true
  ·skip
   rw [if_pos c15] at hr11
   refine ee_condT (by simp [bV, c12, c12M, c15]) ?_
   refine ee_seq_reg rfl (by simp [c12, c12M, c15]; rfl) ?_
   refine ee_ret ?_
   obtain rfl := Option.some.inj hr11
   simp only [pq, reduceCtorEq]
   rintro rfl
   simp [FinQ, c12, c12M, c15]
  ·skip
   rw [if_neg c15] at hr11
   refine ee_condF (by simp [bV, c12, c12M, c15]) ?_
   refine ee_skip ?_
   simp only [pq, reduceCtorEq]
   refine ee_reg rfl (by simp [c12, c12M, c15]; rfl) ?_
   obtain rfl := Option.some.inj hr11
   simp only [pq, reduceCtorEq]
   simp [und, List.replicate, Nat.add_assoc, c12, c12M, c15]
 ·skip
  have c12N := c12
  try simp at c12N
  first | have c12M : (_ = _) = True := eq_true c12N | have c12M := c12N
  rw [if_neg] at hr11
  rotate_left
  ·simp [c12, c12M]
  refine ee_seq_condF (by simp [bV, c12, c12M]) ?_
  refine ee_seq_exit ?_
  obtain ⟨r16, q16, rfl⟩ := ms hr11
  simp only [pq, reduceCtorEq]
  rintro rfl
  try simp only [pq, reduceCtorEq]
  unfold Lslices_IndexFunc_of__api_Input_api_Input__replace_Conflict_1_k1 at q16
  refine ee_seq_reg rfl (by simp [c12, c12M]; rfl) ?_
  refine ee_ret ?_
  obtain rfl := Option.some.inj q16
  simp [FinQ, c12, c12M]
def kp33_8 : Keep := fun i => ⟨[], [], []⟩
theorem w33_8 {T : Tab} (hT73 : T 73 = some G73_7) (a0 : (List Tapi_Input)) (a1 : Tapi_Tx) (x : Bool) (hr : Lslices_ContainsFunc_of__api_Input_api_Input__replace_Conflict_1 a0 a1 = some x) : ∃ kp fl n, execFn tt T G kp fl n Tryd.f33 (E33_8 (a0, a1)) = some (R33_8 (a0, a1) x) := by
 simp only [E33_8, R33_8]
 refine fnE (kp := kp33_8) (w := false) body33 ?_
 unfold c33
 rw [Tryd.ntmps33]
 unfold Lslices_ContainsFunc_of__api_Input_api_Input__replace_Conflict_1 at hr
 refine ee_seq_reg rfl (by simp []; rfl) ?_
 obtain ⟨y2, hy2, hr⟩ := bs hr
 have ehy2 := G73_7_eq hy2
 simp only [E73_7, R73_7, nf, nfs] at ehy2
 refine ee_seq_reg rfl (by simp [hT73, ehy2]; rfl) ?_
 refine ee_ret ?_
 obtain rfl := Option.some.inj hr
 simp [FinQ, hT73, ehy2]
def kp13 : Keep := fun i => ⟨[], [], []⟩
theorem w13 {T : Tab} (hT33 : T 33 = some G33_8) (a0 : Tapi_Tx) (a1 : Tapi_Tx) (x : Bool) (hr : Lreplace_Conflict a0 a1 = some x) : ∃ kp fl n, execFn tt T G kp fl n Tryd.f13 (E13 (a0, a1)) = some (R13 (a0, a1) x) := by
 simp only [E13, R13]
 refine fnE (kp := kp13) (w := false) body13 ?_
 unfold c13
 rw [Tryd.ntmps13]
 unfold Lreplace_Conflict at hr
 refine ee_seq_reg rfl (by simp []; rfl) ?_
 obtain ⟨y2, hy2, hr⟩ := bs hr
 have ehy2 := G33_8_eq hy2
 simp only [E33_8, R33_8, nf, nfs] at ehy2
 refine ee_seq_reg rfl (by simp [hT33, ehy2]; rfl) ?_
 refine ee_ret ?_
 obtain rfl := Option.some.inj hr
 simp [FinQ, hT33, ehy2]
def kp79 : Keep := fun i => ⟨[], [], []⟩
theorem w79 {T : Tab} (a0 : Tapi_OutPoint) (x : Bool) (hr : Ltx_null a0 = some x) : ∃ kp fl n, execFn tt T G kp fl n Tryd.f79 (E79 a0) = some (R79 a0 x) := by
 simp only [E79, R79]
 refine fnE (kp := kp79) (w := false) body79 ?_
 unfold c79
 rw [Tryd.ntmps79]
 unfold Ltx_null at hr
 refine ee_seq_reg rfl (by simp []; rfl) ?_
 refine ee_seq_reg rfl (by simp []; rfl) ?_
 refine ee_ret ?_
 obtain rfl := Option.some.inj hr
 simp [FinQ, ]
def kp45 : Keep := fun i => ⟨[], [], []⟩
theorem w45 {T : Tab} (hT79 : T 79 = some G79) (a0 : Tapi_Tx) (x : Bool) (hr : Ltx_Coinbase a0 = some x) : ∃ kp fl n, execFn tt T G kp fl n Tryd.f45 (E45 a0) = some (R45 a0 x) := by
 simp only [E45, R45]
 refine fnE (kp := kp45) (w := false) body45 ?_
 unfold c45
 rw [Tryd.ntmps45]
 unfold Ltx_Coinbase at hr
 refine ee_seq_reg rfl (by simp []; rfl) ?_
 by_cases c4 : (a0.2.1.length : Int) = 1
 ·skip
  have c4N := c4
  try simp at c4N
  rw [if_pos] at hr
  rotate_left
  ·simp [eq_true c4, eq_true c4N]
  obtain ⟨z5, hz5, hr⟩ := bs hr
  obtain ⟨x6, hx6, hz5⟩ := bs hz5
  have hx6c := getE_of hx6
  obtain ⟨y7, hy7, hz5⟩ := bs hz5
  have ehy7 := G79_eq hy7
  simp only [E79, R79, nf, nfs] at ehy7
  obtain rfl := Option.some.inj hz5
  refine ee_seq_reg rfl (by simp [hx6, hx6c, hT79, ehy7, eq_true c4, eq_true c4N]; rfl) ?_
  refine ee_ret ?_
  obtain rfl := Option.some.inj hr
  simp [FinQ, hx6, hx6c, hT79, ehy7, eq_true c4, eq_true c4N]
 ·skip
  have c4N := c4
  try simp at c4N
  first | have c4M : (_ = _) = True := eq_true c4N | have c4M := c4N
  rw [if_neg] at hr
  rotate_left
  ·simp [c4, c4M]
  obtain ⟨z8, hz8, hr⟩ := bs hr
  obtain rfl := Option.some.inj hz8
  refine ee_seq_reg rfl (by simp [c4, c4M]; rfl) ?_
  refine ee_ret ?_
  obtain rfl := Option.some.inj hr
  simp [FinQ, c4, c4M]
def kp115 : Keep := fun i => ⟨[], [], []⟩
theorem w115 {T : Tab} (a0 : (List Int)) (a1 : (List Int)) (x : (List Int)) (hr : Lcodec_extend a0 a1 = some x) : ∃ kp fl n, execFn tt T G kp fl n Tryd.f115 (E115 (a0, a1)) = some (R115 (a0, a1) x) := by
 simp only [E115, R115]
 refine fnE (kp := kp115) (w := true) body115 ?_
 unfold c115
 rw [Tryd.ntmps115]
 unfold Lcodec_extend at hr
 refine ee_seq_reg rfl (by simp []; rfl) ?_
 obtain ⟨_, u4, hr⟩ := bs hr
 obtain ⟨u4_0, u4_1⟩ := chk_some u4
 have mf5 : 0 ≤ (IntKind.i64.wrap ((a0.length : Int) + (a1.length : Int))).toNat := by omega
 have mf6 : (IntKind.i64.wrap ((a0.length : Int) + (a1.length : Int))).toNat ≤ 140737488355328 := by omega
 have mf7 : (IntKind.i64.wrap ((a0.length : Int) + (a1.length : Int))).toNat ≤ 9223372036854775807 := by omega
 have mf8 : 0 ≤ IntKind.i64.wrap ((a0.length : Int) + (a1.length : Int)) := by omega
 refine ee_seq_reg rfl (by simp [u4_0, u4_1, mf5, mf6, mf7, mf8]; rfl) ?_
 obtain ⟨_, u9, hr⟩ := bs hr
 have u9_0 := chk_some u9
 have n1_u9_0 : a0.length ≤ 140737488355328 := by omega
 have n2_u9_0 : a0.length ≤ 9223372036854775807 := by omega
 refine ee_seq_reg rfl (by simp [n1_u9_0, n2_u9_0]; rfl) ?_
 obtain ⟨_, u10, hr⟩ := bs hr
 have u10_0 := chk_some u10
 have n1_u10_0 : a0.length + a1.length ≤ 140737488355328 := by omega
 have n2_u10_0 : a0.length + a1.length ≤ 9223372036854775807 := by omega
 refine ee_seq_reg rfl (by simp [n1_u10_0, n2_u10_0]; rfl) ?_
 refine ee_ret ?_
 obtain rfl := Option.some.inj hr
 simp [FinQ, n1_u10_0, n2_u10_0]
def kp116 : Keep := fun i => if i = 3 then ⟨[0, 5, 9, 10], [8], []⟩ else ⟨[], [], []⟩
theorem w116 {T : Tab} (a0 : Int) (a1 : Int) (x : (List Int)) (hr : Lcodec_lowest a0 a1 = some x) : ∃ kp fl n, execFn tt T G kp fl n Tryd.f116 (E116 (a0, a1)) = some (R116 (a0, a1) x) := by
 simp only [E116, R116]
 refine fnE (kp := kp116) (w := true) body116 ?_
 unfold c116
 rw [Tryd.ntmps116]
 unfold Lcodec_lowest at hr
 refine ee_seq_reg rfl (by simp []; rfl) ?_
 obtain ⟨_, u14, hr⟩ := bs hr
 obtain ⟨u14_0, u14_1⟩ := chk_some u14
 have mf15 : (a1).toNat ≤ 140737488355328 := by omega
 have mf16 : (a1).toNat ≤ 9223372036854775807 := by omega
 have mf17 : 0 ≤ a1 := by omega
 refine ee_seq_reg rfl (by simp [u14_0, u14_1, mf15, mf16, mf17]; rfl) ?_
 refine ee_assoc ?_
 refine ee_seq_reg rfl (by simp []; rfl) ?_
 refine ee_seq_block ?_
 refine ee_loop (kq := ⟨[0, 5, 9, 10], [8], []⟩) (H := fun (s : Int × (List Int)) => match s with | (p8, p9) => (⟨([.one (.v (.int .u64 a0))] ++ (und 4 ++ ([.one (.ms 8 0 0 (p9.length) 1)] ++ (und 3 ++ ([.one (.v (.int .i64 a1)), .one (.v (.int .i64 p8))] ++ (und 12))))) : List PV), ([(8, ⟨0, 1, intsR .u8 p9, false, true⟩)] : Boxes)⟩ : ASt)) (by kernel_rfl) hr (by simp [und, List.replicate, ]) ?_
 rintro ⟨p8, p9⟩ x18r hr18
 simp only [Lcodec_lowest_s1] at hr18
 unfold b116_1
 simp only [und, List.replicate, List.cons_append, List.nil_append]
 refine ee_seq_reg rfl (by simp []; rfl) ?_
 by_cases c19 : p8 < a1
 ·skip
  rw [if_pos] at hr18
  rotate_left
  ·simp [c19]
  refine ee_seq_condT (by simp [bV, c19]) ?_
  refine ee_seq_skip ?_
  refine ee_seq_block ?_
  refine ee_seq_reg rfl (by simp [c19]; rfl) ?_
  obtain ⟨_, u20, hr18⟩ := bs hr18
  have u20_0 := chk_some u20
  obtain ⟨j21, hj21, hr18⟩ := bs hr18
  obtain ⟨j21a, j21b, j21c⟩ := inA_some hj21
  refine ee_reg rfl (by simp [u20_0, j21a, j21b, j21c, c19]; rfl) ?_
  simp only [pq, reduceCtorEq]
  refine ee_reg rfl (by simp [c19]; rfl) ?_
  obtain rfl := Option.some.inj hr18
  simp only [pq, reduceCtorEq]
  simp [und, List.replicate, Nat.add_assoc, c19]
 ·skip
  rw [if_neg] at hr18
  rotate_left
  ·simp [c19]
  refine ee_seq_condF (by simp [bV, c19]) ?_
  refine ee_seq_exit ?_
  obtain ⟨r22, q22, rfl⟩ := ms hr18
  simp only [pq, reduceCtorEq]
  rintro rfl
  try simp only [pq, reduceCtorEq]
  unfold Lcodec_lowest_k1 at q22
  refine ee_seq_reg rfl (by simp [c19]; rfl) ?_
  refine ee_ret ?_
  obtain rfl := Option.some.inj q22
  simp [FinQ, c19]
def kp106 : Keep := fun i => ⟨[], [], []⟩
theorem w106 {T : Tab} (hT115 : T 115 = some G115) (hT116 : T 116 = some G116) (a0 : (List Int)) (a1 : Int) (x : (List Int)) (hr : Lcodec_AppendU32 a0 a1 = some x) : ∃ kp fl n, execFn tt T G kp fl n Tryd.f106 (E106 (a0, a1)) = some (R106 (a0, a1) x) := by
 simp only [E106, R106]
 refine fnE (kp := kp106) (w := true) body106 ?_
 unfold c106
 rw [Tryd.ntmps106]
 unfold Lcodec_AppendU32 at hr
 refine ee_seq_reg rfl (by simp []; rfl) ?_
 obtain ⟨y3, hy3, hr⟩ := bs hr
 have ehy3 := G116_eq hy3
 simp only [E116, R116, nf, nfs] at ehy3
 obtain ⟨y4, hy4, hr⟩ := bs hr
 have ehy4 := G115_eq hy4
 simp only [E115, R115, nf, nfs] at ehy4
 refine ee_seq_reg rfl (by simp [hT116, ehy3, hT115, ehy4]; rfl) ?_
 refine ee_ret ?_
 obtain rfl := Option.some.inj hr
 simp [FinQ, hT116, ehy3, hT115, ehy4]
def kp109 : Keep := fun i => ⟨[], [], []⟩
theorem w109 {T : Tab} (hT115 : T 115 = some G115) (hT116 : T 116 = some G116) (a0 : (List Int)) (a1 : Int) (x : (List Int)) (hr : Lcodec_AppendU64 a0 a1 = some x) : ∃ kp fl n, execFn tt T G kp fl n Tryd.f109 (E109 (a0, a1)) = some (R109 (a0, a1) x) := by
 simp only [E109, R109]
 refine fnE (kp := kp109) (w := true) body109 ?_
 unfold c109
 rw [Tryd.ntmps109]
 unfold Lcodec_AppendU64 at hr
 refine ee_seq_reg rfl (by simp []; rfl) ?_
 obtain ⟨y3, hy3, hr⟩ := bs hr
 have ehy3 := G116_eq hy3
 simp only [E116, R116, nf, nfs] at ehy3
 obtain ⟨y4, hy4, hr⟩ := bs hr
 have ehy4 := G115_eq hy4
 simp only [E115, R115, nf, nfs] at ehy4
 refine ee_seq_reg rfl (by simp [hT116, ehy3, hT115, ehy4]; rfl) ?_
 refine ee_ret ?_
 obtain rfl := Option.some.inj hr
 simp [FinQ, hT116, ehy3, hT115, ehy4]
def kp117 : Keep := fun i => ⟨[], [], []⟩
theorem w117 {T : Tab} (hT115 : T 115 = some G115) (hT116 : T 116 = some G116) (a0 : (List Int)) (a1 : Int) (x : (List Int)) (hr : Lcodec_AppendU16 a0 a1 = some x) : ∃ kp fl n, execFn tt T G kp fl n Tryd.f117 (E117 (a0, a1)) = some (R117 (a0, a1) x) := by
 simp only [E117, R117]
 refine fnE (kp := kp117) (w := true) body117 ?_
 unfold c117
 rw [Tryd.ntmps117]
 unfold Lcodec_AppendU16 at hr
 refine ee_seq_reg rfl (by simp []; rfl) ?_
 obtain ⟨y3, hy3, hr⟩ := bs hr
 have ehy3 := G116_eq hy3
 simp only [E116, R116, nf, nfs] at ehy3
 obtain ⟨y4, hy4, hr⟩ := bs hr
 have ehy4 := G115_eq hy4
 simp only [E115, R115, nf, nfs] at ehy4
 refine ee_seq_reg rfl (by simp [hT116, ehy3, hT115, ehy4]; rfl) ?_
 refine ee_ret ?_
 obtain rfl := Option.some.inj hr
 simp [FinQ, hT116, ehy3, hT115, ehy4]
def kp107 : Keep := fun i => ⟨[], [], []⟩
theorem w107 {T : Tab} (hT106 : T 106 = some G106) (hT109 : T 109 = some G109) (hT115 : T 115 = some G115) (hT117 : T 117 = some G117) (a0 : (List Int)) (a1 : Int) (x : (List Int)) (hr : Lcodec_AppendSize a0 a1 = some x) : ∃ kp fl n, execFn tt T G kp fl n Tryd.f107 (E107 (a0, a1)) = some (R107 (a0, a1) x) := by
 simp only [E107, R107]
 refine fnE (kp := kp107) (w := true) body107 ?_
 unfold c107
 rw [Tryd.ntmps107]
 unfold Lcodec_AppendSize at hr
 refine ee_seq_reg rfl (by simp []; rfl) ?_
 refine ee_seq_block ?_
 refine ee_seq_reg rfl (by simp []; rfl) ?_
 by_cases c8 : a1 < 253
 ·skip
  rw [if_pos c8] at hr
  refine ee_condT (by simp [bV, c8]) ?_
  obtain ⟨y9, hy9, hr⟩ := bs hr
  have ehy9 := G115_eq hy9
  simp only [E115, R115, nf, nfs] at ehy9
  refine ee_seq_reg rfl (by simp [hT115, ehy9, c8]; rfl) ?_
  refine ee_ret ?_
  obtain rfl := Option.some.inj hr
  simp [FinQ, hT115, ehy9, c8]
 ·skip
  rw [if_neg c8] at hr
  refine ee_condF (by simp [bV, c8]) ?_
  refine ee_seq_reg rfl (by simp [c8]; rfl) ?_
  by_cases c10 : a1 < 65536
  ·skip
   rw [if_pos c10] at hr
   refine ee_condT (by simp [bV, c8, c10]) ?_
   obtain ⟨y11, hy11, hr⟩ := bs hr
   have ehy11 := G115_eq hy11
   simp only [E115, R115, nf, nfs] at ehy11
   obtain ⟨y12, hy12, hr⟩ := bs hr
   have ehy12 := G117_eq hy12
   simp only [E117, R117, nf, nfs] at ehy12
   refine ee_seq_reg rfl (by simp [hT115, ehy11, hT117, ehy12, c8, c10]; rfl) ?_
   refine ee_ret ?_
   obtain rfl := Option.some.inj hr
   simp [FinQ, hT115, ehy11, hT117, ehy12, c8, c10]
  ·skip
   rw [if_neg c10] at hr
   refine ee_condF (by simp [bV, c8, c10]) ?_
   refine ee_seq_reg rfl (by simp [c8, c10]; rfl) ?_
   by_cases c13 : a1 < 4294967296
   ·skip
    rw [if_pos c13] at hr
    refine ee_condT (by simp [bV, c8, c10, c13]) ?_
    obtain ⟨y14, hy14, hr⟩ := bs hr
    have ehy14 := G115_eq hy14
    simp only [E115, R115, nf, nfs] at ehy14
    obtain ⟨y15, hy15, hr⟩ := bs hr
    have ehy15 := G106_eq hy15
    simp only [E106, R106, nf, nfs] at ehy15
    refine ee_seq_reg rfl (by simp [hT115, ehy14, hT106, ehy15, c8, c10, c13]; rfl) ?_
    refine ee_ret ?_
    obtain rfl := Option.some.inj hr
    simp [FinQ, hT115, ehy14, hT106, ehy15, c8, c10, c13]
   ·skip
    rw [if_neg c13] at hr
    refine ee_condF (by simp [bV, c8, c10, c13]) ?_
    refine ee_skip ?_
    simp only [pq, reduceCtorEq]
    obtain ⟨y16, hy16, hr⟩ := bs hr
    have ehy16 := G115_eq hy16
    simp only [E115, R115, nf, nfs] at ehy16
    obtain ⟨y17, hy17, hr⟩ := bs hr
    have ehy17 := G109_eq hy17
    simp only [E109, R109, nf, nfs] at ehy17
    refine ee_seq_reg rfl (by simp [hT115, ehy16, hT109, ehy17, c8, c10, c13]; rfl) ?_
    refine ee_ret ?_
    obtain rfl := Option.some.inj hr
    simp [FinQ, hT115, ehy16, hT109, ehy17, c8, c10, c13]
def kp118 : Keep := fun i => ⟨[], [], []⟩
theorem w118 {T : Tab} (hT115 : T 115 = some G115) (a0 : (List Int)) (a1 : (Arr 32)) (x : (List Int)) (hr : Lcodec_AppendHash a0 a1 = some x) : ∃ kp fl n, execFn tt T G kp fl n Tryd.f118 (E118 (a0, a1)) = some (R118 (a0, a1) x) := by
 simp only [E118, R118]
 refine fnE (kp := kp118) (w := true) body118 ?_
 unfold c118
 rw [Tryd.ntmps118]
 unfold Lcodec_AppendHash at hr
 refine ee_seq_reg rfl (by simp []; rfl) ?_
 obtain ⟨y2, hy2, hr⟩ := bs hr
 have ehy2 := G115_eq hy2
 simp only [E115, R115, nf, nfs] at ehy2
 refine ee_seq_reg rfl (by simp [hT115, ehy2]; rfl) ?_
 refine ee_ret ?_
 obtain rfl := Option.some.inj hr
 simp [FinQ, hT115, ehy2]
def kp108 : Keep := fun i => ⟨[], [], []⟩
theorem w108 {T : Tab} (hT106 : T 106 = some G106) (hT118 : T 118 = some G118) (a0 : Tapi_OutPoint) (x : (List Int)) (hr : Ltx_Point a0 = some x) : ∃ kp fl n, execFn tt T G kp fl n Tryd.f108 (E108 a0) = some (R108 a0 x) := by
 simp only [E108, R108]
 refine fnE (kp := kp108) (w := true) body108 ?_
 unfold c108
 rw [Tryd.ntmps108]
 unfold Ltx_Point at hr
 refine ee_seq_reg rfl (by simp []; rfl) ?_
 obtain ⟨y3, hy3, hr⟩ := bs hr
 have ehy3 := G118_eq hy3
 simp only [E118, R118, nf, nfs] at ehy3
 obtain ⟨y4, hy4, hr⟩ := bs hr
 have ehy4 := G106_eq hy4
 simp only [E106, R106, nf, nfs] at ehy4
 refine ee_seq_draw rfl (by simp [hT118, ehy3, hT106, ehy4]; first | exact ⟨rfl, rfl⟩ | rfl) (by kernel_rfl) ?_
 refine ee_ret ?_
 obtain rfl := Option.some.inj hr
 simp [FinQ, hT118, ehy3, hT106, ehy4]
def kp110 : Keep := fun i => ⟨[], [], []⟩
theorem w110 {T : Tab} (hT107 : T 107 = some G107) (hT115 : T 115 = some G115) (a0 : (List Int)) (a1 : (List Int)) (x : (List Int)) (hr : Lcodec_AppendBytes a0 a1 = some x) : ∃ kp fl n, execFn tt T G kp fl n Tryd.f110 (E110 (a0, a1)) = some (R110 (a0, a1) x) := by
 simp only [E110, R110]
 refine fnE (kp := kp110) (w := true) body110 ?_
 unfold c110
 rw [Tryd.ntmps110]
 unfold Lcodec_AppendBytes at hr
 refine ee_seq_reg rfl (by simp []; rfl) ?_
 obtain ⟨y3, hy3, hr⟩ := bs hr
 have ehy3 := G107_eq hy3
 simp only [E107, R107, nf, nfs] at ehy3
 obtain ⟨y4, hy4, hr⟩ := bs hr
 have ehy4 := G115_eq hy4
 simp only [E115, R115, nf, nfs] at ehy4
 refine ee_seq_reg rfl (by simp [hT107, ehy3, hT115, ehy4]; rfl) ?_
 refine ee_ret ?_
 obtain rfl := Option.some.inj hr
 simp [FinQ, hT107, ehy3, hT115, ehy4]
end Go.Proofs.YtconfbgcjkjnkaaDoor
