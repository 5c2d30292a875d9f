import Derived.Test.YtconfbgcjkjnkaaDoorLfK
import Derived.Test.YtconfbgcjkjnkaaDoorCode
namespace Go.Proofs.YtconfbgcjkjnkaaDoor
open Go.RowKit
open Go.Av
open Go.Lc
set_option maxRecDepth 100000
set_option linter.unusedSimpArgs false
set_option linter.unusedVariables false
set_option maxHeartbeats 4000000
def kp8 : Keep := fun i => ⟨[], [], []⟩
theorem w8 {T : Tab} (hT11 : T 11 = some G11) (hT13 : T 13 = some G13) (hT18 : T 18 = some G18) (x : Bool) (hr : Llaw36_sane  = some x) : ∃ kp fl n, execFn tt T G kp fl n Tryd.f8 (E8 ()) = some (R8 () x) := by
 simp only [E8, R8]
 refine fnE (kp := kp8) (w := false) body8 ?_
 unfold c8
 rw [Tryd.ntmps8]
 unfold Llaw36_sane at hr
 refine ee_seq_reg rfl (by simp []; rfl) ?_
 refine ee_seq_reg rfl (by simp []; rfl) ?_
 refine ee_seq_reg rfl (by simp []; rfl) ?_
 refine ee_seq_reg rfl (by simp []; rfl) ?_
 obtain ⟨y8, hy8, hr⟩ := bs hr
 have ehy8 := G11_eq hy8
 simp only [E11, R11, nf, nfs] at ehy8
 by_cases c9 : y8 = true
 ·skip
  rw [if_neg] at hr
  rotate_left
  ·simp [c9]
  obtain ⟨z10, hz10, hr⟩ := bs hr
  obtain rfl := Option.some.inj hz10
  rw [if_neg] at hr
  rotate_left
  ·simp [c9]
  obtain ⟨z11, hz11, hr⟩ := bs hr
  obtain rfl := Option.some.inj hz11
  rw [if_neg] at hr
  rotate_left
  ·simp [c9]
  obtain ⟨z12, hz12, hr⟩ := bs hr
  obtain rfl := Option.some.inj hz12
  refine ee_seq_reg rfl (by simp [hT11, ehy8, c9]; rfl) ?_
  refine ee_ret ?_
  obtain rfl := Option.some.inj hr
  simp [FinQ, hT11, ehy8, c9]
 ·skip
  rw [if_pos] at hr
  rotate_left
  ·simp [c9]
  obtain ⟨z13, hz13, hr⟩ := bs hr
  obtain ⟨y14, hy14, hz13⟩ := bs hz13
  have ehy14 := G11_eq hy14
  simp only [E11, R11, nf, nfs] at ehy14
  obtain rfl := Option.some.inj hz13
  by_cases c15 : y14 = true
  ·skip
   rw [if_pos] at hr
   rotate_left
   ·simp [c9, c15]
   obtain ⟨z16, hz16, hr⟩ := bs hr
   obtain ⟨y17, hy17, hz16⟩ := bs hz16
   have ehy17 := G13_eq hy17
   simp only [E13, R13, nf, nfs] at ehy17
   obtain rfl := Option.some.inj hz16
   by_cases c18 : y17 = true
   ·skip
    rw [if_pos] at hr
    rotate_left
    ·simp [c9, c15, c18]
    obtain ⟨z19, hz19, hr⟩ := bs hr
    obtain ⟨y20, hy20, hz19⟩ := bs hz19
    have ehy20 := G18_eq hy20
    simp only [E18, R18, nf, nfs] at ehy20
    obtain rfl := Option.some.inj hz19
    refine ee_seq_reg rfl (by simp [hT11, ehy8, ehy14, hT13, ehy17, hT18, ehy20, c9, c15, c18]; rfl) ?_
    refine ee_ret ?_
    obtain rfl := Option.some.inj hr
    simp [FinQ, hT11, ehy8, ehy14, hT13, ehy17, hT18, ehy20, c9, c15, c18]
   ·skip
    rw [if_neg] at hr
    rotate_left
    ·simp [c9, c15, c18]
    obtain ⟨z21, hz21, hr⟩ := bs hr
    obtain rfl := Option.some.inj hz21
    refine ee_seq_reg rfl (by simp [hT11, ehy8, ehy14, hT13, ehy17, c9, c15, c18]; rfl) ?_
    refine ee_ret ?_
    obtain rfl := Option.some.inj hr
    simp [FinQ, hT11, ehy8, ehy14, hT13, ehy17, c9, c15, c18]
  ·skip
   rw [if_neg] at hr
   rotate_left
   ·simp [c9, c15]
   obtain ⟨z22, hz22, hr⟩ := bs hr
   obtain rfl := Option.some.inj hz22
   rw [if_neg] at hr
   rotate_left
   ·simp [c9, c15]
   obtain ⟨z23, hz23, hr⟩ := bs hr
   obtain rfl := Option.some.inj hz23
   refine ee_seq_reg rfl (by simp [hT11, ehy8, ehy14, c9, c15]; rfl) ?_
   refine ee_ret ?_
   obtain rfl := Option.some.inj hr
   simp [FinQ, hT11, ehy8, ehy14, c9, c15]
def kp9 : Keep := fun i => ⟨[], [], []⟩
theorem w9 {T : Tab} (a0 : (List Int)) (x : Tlightclientmill_Deck) (hr : Lmill_New a0 = some x) : ∃ kp fl n, execFn tt T G kp fl n Tryd.f9 (E9 a0) = some (R9 a0 x) := by
 simp only [E9, R9]
 refine fnE (kp := kp9) (w := true) body9 ?_
 unfold c9
 rw [Tryd.ntmps9]
 unfold Lmill_New at hr
 refine ee_seq_reg rfl (by simp []; rfl) ?_
 refine ee_seq_reg rfl (by simp []; rfl) ?_
 refine ee_ret ?_
 obtain rfl := Option.some.inj hr
 simp [FinQ, ]
def kp25 : Keep := fun i => ⟨[], [], []⟩
theorem w25 {T : Tab} (a0 : Int) (a1 : Int) (x : Int) (hr : Lmill_Mod a0 a1 = some x) : ∃ kp fl n, execFn tt T G kp fl n Tryd.f25 (E25 (a0, a1)) = some (R25 (a0, a1) x) := by
 simp only [E25, R25]
 refine fnE (kp := kp25) (w := false) body25 ?_
 unfold c25
 rw [Tryd.ntmps25]
 unfold Lmill_Mod at hr
 refine ee_seq_reg rfl (by simp []; rfl) ?_
 obtain ⟨_, u3, hr⟩ := bs hr
 have u3_0 := chk_some u3
 refine ee_seq_reg rfl (by simp [u3_0]; rfl) ?_
 refine ee_assoc ?_
 refine ee_seq_reg rfl (by simp []; rfl) ?_
 by_cases c4 : (a0).tmod a1 < 0
 ·skip
  rw [if_pos c4] at hr
  refine ee_seq_condT (by simp [bV, c4]) ?_
  refine ee_seq_reg rfl (by simp [c4]; rfl) ?_
  unfold Lmill_Mod_k1 at hr
  refine ee_seq_reg rfl (by simp [c4]; rfl) ?_
  refine ee_ret ?_
  obtain rfl := Option.some.inj hr
  simp [FinQ, c4]
 ·skip
  rw [if_neg c4] at hr
  refine ee_seq_condF (by simp [bV, c4]) ?_
  refine ee_seq_skip ?_
  unfold Lmill_Mod_k1 at hr
  refine ee_seq_reg rfl (by simp [c4]; rfl) ?_
  refine ee_ret ?_
  obtain rfl := Option.some.inj hr
  simp [FinQ, c4]
def kp38 : Keep := fun i => ⟨[], [], []⟩
theorem w38 {T : Tab} (a0 : Tlightclientmill_Deck) (x : Bool × Tlightclientmill_Deck) (hr : Lmill_Deck_Left a0 = some x) : ∃ kp fl n, execFn tt T G kp fl n Tryd.f38 (E38 a0) = some (R38 a0 x) := by
 simp only [E38, R38]
 refine fnE (kp := kp38) (w := false) body38 ?_
 unfold c38
 rw [Tryd.ntmps38]
 unfold Lmill_Deck_Left at hr
 refine ee_seq_reg rfl (by simp []; rfl) ?_
 refine ee_seq_draw rfl (by simp []; first | exact ⟨rfl, rfl⟩ | rfl) (by kernel_rfl) ?_
 refine ee_ret ?_
 obtain rfl := Option.some.inj hr
 simp [FinQ, ]
def kp17 : Keep := fun i => ⟨[], [], []⟩
theorem w17 {T : Tab} (hT25 : T 25 = some G25) (hT38 : T 38 = some G38) (a0 : Tlightclientmill_Deck) (a1 : Int) (x : Int × Tlightclientmill_Deck) (hr : Lmill_Deck_Next a0 a1 = some x) : ∃ kp fl n, execFn tt T G kp fl n Tryd.f17 (E17 (a0, a1)) = some (R17 (a0, a1) x) := by
 simp only [E17, R17]
 refine fnE (kp := kp17) (w := false) body17 ?_
 unfold c17
 rw [Tryd.ntmps17]
 unfold Lmill_Deck_Next at hr
 refine ee_seq_reg rfl (by simp []; rfl) ?_
 refine ee_assoc ?_
 obtain ⟨y4, hy4, hr⟩ := bs hr
 have ehy4 := G38_eq hy4
 simp only [E38, R38, nf, nfs] at ehy4
 refine ee_seq_reg rfl (by simp [hT38, ehy4]; rfl) ?_
 by_cases c5 : y4.1 = true
 ·skip
  rw [if_neg (not_not_intro c5)] at hr
  refine ee_seq_condF (by simp [bV, c5]) ?_
  refine ee_seq_skip ?_
  refine ee_seq_reg rfl (by simp [c5]; rfl) ?_
  obtain ⟨x6, hx6, hr⟩ := bs hr
  obtain ⟨hx6a, hx6b⟩ := idx_some hx6
  have hx6c := getE_of hx6b
  obtain ⟨y7, hy7, hr⟩ := bs hr
  have ehy7 := G25_eq hy7
  simp only [E25, R25, nf, nfs] at ehy7
  refine ee_seq_draw rfl (by simp [hx6a, hx6b, hx6c, hT25, ehy7, c5]; first | exact ⟨rfl, rfl⟩ | rfl) (by kernel_rfl) ?_
  refine ee_ret ?_
  obtain rfl := Option.some.inj hr
  simp [FinQ, hx6a, hx6b, hx6c, hT25, ehy7, c5]
 ·skip
  rw [if_pos c5] at hr
  refine ee_seq_condT (by simp [bV, c5]) ?_
  refine ee_assoc ?_
  refine ee_seq_reg rfl (by simp [c5]; rfl) ?_
  refine ee_seq_ret ?_
  obtain rfl := Option.some.inj hr
  simp [FinQ, c5]
def kp23 : Keep := fun i => ⟨[], [], []⟩
theorem w23 {T : Tab} (a0 : Int) (x : (List Int)) (hr : Lmade_Script a0 = some x) : ∃ kp fl n, execFn tt T G kp fl n Tryd.f23 (E23 a0) = some (R23 a0 x) := by
 simp only [E23, R23]
 refine fnE (kp := kp23) (w := true) body23 ?_
 unfold c23
 rw [Tryd.ntmps23]
 unfold Lmade_Script at hr
 refine ee_seq_reg rfl (by simp []; rfl) ?_
 refine ee_seq_reg rfl (by simp [List.range, List.range.loop]; rfl) ?_
 refine ee_ret ?_
 obtain rfl := Option.some.inj hr
 simp [FinQ, List.range, List.range.loop]
def kp31 : Keep := fun i => ⟨[], [], []⟩
theorem w31 {T : Tab} (hT17 : T 17 = some G17) (a0 : Tlightclientmill_Deck) (a1 : Int) (a2 : Int) (x : Int × Tlightclientmill_Deck) (hr : Lmill_Deck_Range a0 a1 a2 = some x) : ∃ kp fl n, execFn tt T G kp fl n Tryd.f31 (E31 (a0, a1, a2)) = some (R31 (a0, a1, a2) x) := by
 simp only [E31, R31]
 refine fnE (kp := kp31) (w := false) body31 ?_
 unfold c31
 rw [Tryd.ntmps31]
 unfold Lmill_Deck_Range at hr
 refine ee_seq_reg rfl (by simp []; rfl) ?_
 obtain ⟨y2, hy2, hr⟩ := bs hr
 have ehy2 := G17_eq hy2
 simp only [E17, R17, nf, nfs] at ehy2
 refine ee_seq_reg rfl (by simp [hT17, ehy2]; rfl) ?_
 refine ee_ret ?_
 obtain rfl := Option.some.inj hr
 simp [FinQ, hT17, ehy2]
def kp32 : Keep := fun i => ⟨[], [], []⟩
theorem w32 {T : Tab} (hT17 : T 17 = some G17) (a0 : Tlightclientmill_Deck) (x : (Arr 32) × Tlightclientmill_Deck) (hr : Lmill_Hash a0 = some x) : ∃ kp fl n, execFn tt T G kp fl n Tryd.f32 (E32 a0) = some (R32 a0 x) := by
 simp only [E32, R32]
 refine fnE (kp := kp32) (w := false) body32 ?_
 unfold c32
 rw [Tryd.ntmps32]
 unfold Lmill_Hash at hr
 refine ee_seq_reg rfl (by simp []; rfl) ?_
 obtain ⟨y3, hy3, hr⟩ := bs hr
 have ehy3 := G17_eq hy3
 simp only [E17, R17, nf, nfs] at ehy3
 obtain ⟨y4, hy4, hr⟩ := bs hr
 have ehy4 := G17_eq hy4
 simp only [E17, R17, nf, nfs] at ehy4
 have ap5 := arC_put (k := .u8) (zA 32) (i := 0) (by decide) (IntKind.u8.wrap (y3.1))
 have ap6 := arC_put (k := .u8) ((zA 32).put 0 (IntKind.u8.wrap (y3.1))) (i := 31) (by decide) (IntKind.u8.wrap (y4.1))
 refine ee_seq_reg rfl (by simp [hT17, ehy3, ehy4, ap5, ap6]; rfl) ?_
 refine ee_ret ?_
 obtain rfl := Option.some.inj hr
 simp [FinQ, hT17, ehy3, ehy4, ap5, ap6]
def kp10 : Keep := fun i => if i = 3 then ⟨[0, 2, 3, 4], [2, 3, 45, 1000000], [(3, some 1, 45, 35)]⟩ else if i = 10 then ⟨[0, 2, 3, 6], [2, 3, 45, 63, 1000000], [(3, some 2, 63, 2)]⟩ else ⟨[], [], []⟩
theorem w10 {T : Tab} (hT17 : T 17 = some G17) (hT23 : T 23 = some G23) (hT31 : T 31 = some G31) (hT32 : T 32 = some G32) (a0 : Tlightclientmill_Deck) (x : Tapi_Tx × Tlightclientmill_Deck) (hr : Lmill_Tx a0 = some x) : ∃ kp fl n, execFn tt T G kp fl n Tryd.f10 (E10 a0) = some (R10 a0 x) := by
 simp only [E10, R10]
 refine fnE (kp := kp10) (w := true) body10 ?_
 unfold c10
 rw [Tryd.ntmps10]
 unfold Lmill_Tx at hr
 refine ee_seq_reg rfl (by simp []; rfl) ?_
 obtain ⟨y72, hy72, hr⟩ := bs hr
 have ehy72 := G17_eq hy72
 simp only [E17, R17, nf, nfs] at ehy72
 obtain ⟨y73, hy73, hr⟩ := bs hr
 have ehy73 := G17_eq hy73
 simp only [E17, R17, nf, nfs] at ehy73
 refine ee_seq_reg rfl (by simp [hT17, ehy72, ehy73]; rfl) ?_
 refine ee_assoc ?_
 obtain ⟨y74, hy74, hr⟩ := bs hr
 have ehy74 := G31_eq hy74
 simp only [E31, R31, nf, nfs] at ehy74
 refine ee_seq_reg rfl (by simp [hT31, ehy74]; rfl) ?_
 refine ee_seq_block ?_
 refine ee_loop (kq := ⟨[0, 2, 3, 4], [2, 3, 45, 1000000], [(3, some 1, 45, 35)]⟩) (H := fun (s : Int × Tlightclientmill_Deck × (List Tapi_Input)) => match s with | (p26, p27, p28) => (⟨([.ptr 1000000 0 0 0 2] ++ (und 1 ++ ([.ptr 2 0 0 0 4, .ptr 3 0 0 0 4, .one (.v (.int .i64 p26))] ++ (und 61))) : List PV), ([(2, ⟨0, 4, [[.v (.int .u32 0), .slice .nil [], .slice .nil [], .v (.int .u32 0)]], false, false⟩), (3, ⟨0, 4, [[.v (.int .u32 (IntKind.u32.wrap (y72.1))), .ms 45 0 0 (p28.length) 35, .slice .nil [], .v (.int .u32 (IntKind.u32.wrap (y73.1)))]], false, false⟩), (45, ⟨0, 35, List.map eapi_Input p28, false, true⟩), (1000000, ⟨0, 2, [[.slice .no (intsR .i64 p27.1), .v (.int .i64 p27.2)]], false, false⟩)] : Boxes)⟩ : ASt)) (by kernel_rfl) hr (by simp [und, List.replicate, ]) ?_
 rintro ⟨p26, p27, p28⟩ x75r hr75
 simp only [Lmill_Tx_s1] at hr75
 unfold b10_1
 simp only [und, List.replicate, List.cons_append, List.nil_append]
 refine ee_assoc ?_
 refine ee_seq_reg rfl (by simp []; rfl) ?_
 by_cases c76 : 0 < p26
 ·skip
  rw [if_pos] at hr75
  rotate_left
  ·simp [c76]
  refine ee_seq_condT (by simp [bV, c76]) ?_
  refine ee_seq_skip ?_
  refine ee_seq_block ?_
  obtain ⟨y77, hy77, hr75⟩ := bs hr75
  have ehy77 := G32_eq hy77
  simp only [E32, R32, nf, nfs] at ehy77
  obtain ⟨y78, hy78, hr75⟩ := bs hr75
  have ehy78 := G17_eq hy78
  simp only [E17, R17, nf, nfs] at ehy78
  obtain ⟨y79, hy79, hr75⟩ := bs hr75
  have ehy79 := G17_eq hy79
  simp only [E17, R17, nf, nfs] at ehy79
  obtain ⟨j80, hj80, hr75⟩ := bs hr75
  obtain ⟨j80a, j80b, j80c⟩ := inA_some hj80
  have j80d : j80 ≤ 3 := by omega
  obtain ⟨x81, hx81, hr75⟩ := bs hr75
  have ghx81 := getE_of hx81
  have mhx81 : (intsR .u32 ([4294967295, 4294967294, 4294967293, 0]))[j80]? = some [.v (.int .u32 x81)] := by rw [intsR_get, hx81]; rfl
  simp only [intsR_cons, intsR_nil] at mhx81
  have mghx81 := getE_of mhx81
  refine ee_seq_reg rfl (by simp [hT32, ehy77, hT17, ehy78, List.range, List.range.loop, ehy79, j80a, j80b, j80c, j80d, hx81, ghx81, mhx81, mghx81, c76]; rfl) ?_
  refine ee_assoc ?_
  obtain ⟨y82, hy82, hr75⟩ := bs hr75
  have ehy82 := G17_eq hy82
  simp only [E17, R17, nf, nfs] at ehy82
  refine ee_seq_reg rfl (by simp [hT17, ehy82, c76]; rfl) ?_
  by_cases c83 : y82.1 = 0
  ·skip
   rw [if_pos c83] at hr75
   refine ee_seq_condT (by simp [bV, c76, eq_true c83]) ?_
   obtain ⟨y84, hy84, hr75⟩ := bs hr75
   have ehy84 := G17_eq hy84
   simp only [E17, R17, nf, nfs] at ehy84
   refine ee_seq_reg rfl (by simp [hT17, ehy84, c76, eq_true c83]; rfl) ?_
   unfold Lmill_Tx_k3 at hr75
   obtain ⟨_, u85, hr75⟩ := bs hr75
   have u85_0 := chk_some u85
   have n1_u85_0 : (p28.length + 1) * 64 ≤ 140737488355328 := by omega
   have n2_u85_0 : p28.length + 1 ≤ 9223372036854775807 := by omega
   refine ee_reg rfl (by simp [n1_u85_0, n2_u85_0, c76, eq_true c83]; rfl) ?_
   simp only [pq, reduceCtorEq]
   refine ee_reg rfl (by simp [c76, eq_true c83]; rfl) ?_
   obtain rfl := Option.some.inj hr75
   simp only [pq, reduceCtorEq]
   simp [und, List.replicate, Nat.add_assoc, c76, eq_true c83]
  ·skip
   rw [if_neg c83] at hr75
   refine ee_seq_condF (by simp [bV, c76, c83]) ?_
   refine ee_seq_skip ?_
   unfold Lmill_Tx_k3 at hr75
   obtain ⟨_, u86, hr75⟩ := bs hr75
   have u86_0 := chk_some u86
   have n1_u86_0 : (p28.length + 1) * 64 ≤ 140737488355328 := by omega
   have n2_u86_0 : p28.length + 1 ≤ 9223372036854775807 := by omega
   refine ee_reg rfl (by simp [n1_u86_0, n2_u86_0, c76, c83]; rfl) ?_
   simp only [pq, reduceCtorEq]
   refine ee_reg rfl (by simp [c76, c83]; rfl) ?_
   obtain rfl := Option.some.inj hr75
   simp only [pq, reduceCtorEq]
   simp [und, List.replicate, Nat.add_assoc, c76, c83]
 ·skip
  rw [if_neg] at hr75
  rotate_left
  ·simp [c76]
  refine ee_seq_condF (by simp [bV, c76]) ?_
  refine ee_seq_exit ?_
  obtain ⟨r87, q87, rfl⟩ := ms hr75
  simp only [pq, reduceCtorEq]
  rintro rfl
  try simp only [pq, reduceCtorEq]
  unfold Lmill_Tx_k1 at q87
  refine ee_assoc ?_
  obtain ⟨y88, hy88, q87⟩ := bs q87
  have ehy88 := G31_eq hy88
  simp only [E31, R31, nf, nfs] at ehy88
  refine ee_seq_reg rfl (by simp [hT31, ehy88, c76]; rfl) ?_
  refine ee_seq_block ?_
  refine ee_loop (kq := ⟨[0, 2, 3, 6], [2, 3, 45, 63, 1000000], [(3, some 2, 63, 2)]⟩) (H := fun (s : Int × Tlightclientmill_Deck × (List Tapi_Output)) => match s with | (p50, p51, p52) => (⟨([.ptr 1000000 0 0 0 2] ++ (und 1 ++ ([.ptr 2 0 0 0 4, .ptr 3 0 0 0 4] ++ (und 2 ++ ([.one (.v (.int .i64 p50))] ++ (und 59))))) : List PV), ([(2, ⟨0, 4, [[.v (.int .u32 0), .slice .nil [], .slice .nil [], .v (.int .u32 0)]], false, false⟩), (3, ⟨0, 4, [[.v (.int .u32 (IntKind.u32.wrap (y72.1))), .ms 45 0 0 (p28.length) 35, .ms 63 0 0 (p52.length) 2, .v (.int .u32 (IntKind.u32.wrap (y73.1)))]], false, false⟩), (45, ⟨0, 35, List.map eapi_Input p28, false, true⟩), (63, ⟨0, 2, List.map eapi_Output p52, false, true⟩), (1000000, ⟨0, 2, [[.slice .no (intsR .i64 p51.1), .v (.int .i64 p51.2)]], false, false⟩)] : Boxes)⟩ : ASt)) (by kernel_rfl) q87 (by simp [und, List.replicate, c76]) ?_
  rintro ⟨p50, p51, p52⟩ x89r hr89
  simp only [Lmill_Tx_s2] at hr89
  unfold b10_2
  simp only [und, List.replicate, List.cons_append, List.nil_append]
  refine ee_assoc ?_
  refine ee_seq_reg rfl (by simp [c76]; rfl) ?_
  by_cases c90 : 0 < p50
  ·skip
   rw [if_pos] at hr89
   rotate_left
   ·simp [c76, c90]
   refine ee_seq_condT (by simp [bV, c76, c90]) ?_
   refine ee_seq_skip ?_
   refine ee_seq_block ?_
   obtain ⟨y91, hy91, hr89⟩ := bs hr89
   have ehy91 := G17_eq hy91
   simp only [E17, R17, nf, nfs] at ehy91
   obtain ⟨y92, hy92, hr89⟩ := bs hr89
   have ehy92 := G17_eq hy92
   simp only [E17, R17, nf, nfs] at ehy92
   obtain ⟨y93, hy93, hr89⟩ := bs hr89
   have ehy93 := G23_eq hy93
   simp only [E23, R23, nf, nfs] at ehy93
   obtain ⟨_, u94, hr89⟩ := bs hr89
   have u94_0 := chk_some u94
   have n1_u94_0 : (p52.length + 1) * 32 ≤ 140737488355328 := by omega
   have n2_u94_0 : p52.length + 1 ≤ 9223372036854775807 := by omega
   refine ee_draw rfl (by simp [hT17, ehy91, ehy92, hT23, ehy93, n1_u94_0, n2_u94_0, c76, c90]; first | exact ⟨rfl, rfl⟩ | rfl) (by kernel_rfl) ?_
   simp only [pq, reduceCtorEq]
   refine ee_reg rfl (by simp [c76, c90]; rfl) ?_
   obtain rfl := Option.some.inj hr89
   simp only [pq, reduceCtorEq]
   simp [und, List.replicate, Nat.add_assoc, c76, c90]
  ·skip
   rw [if_neg] at hr89
   rotate_left
   ·simp [c76, c90]
   refine ee_seq_condF (by simp [bV, c76, c90]) ?_
   refine ee_seq_exit ?_
   obtain ⟨r95, q95, rfl⟩ := ms hr89
   simp only [pq, reduceCtorEq]
   rintro rfl
   try simp only [pq, reduceCtorEq]
   unfold Lmill_Tx_k2 at q95
   refine ee_seq_reg rfl (by simp [c76, c90]; rfl) ?_
   refine ee_ret ?_
   obtain rfl := Option.some.inj q95
   simp [FinQ, c76, c90]
def kp12 : Keep := fun i => if i = 2 then ⟨[1, 3], [1], []⟩ else ⟨[], [], []⟩
theorem w12 {T : Tab} (a0 : Tapi_Tx) (x : Bool) (hr : Lref36_Signals a0 = some x) : ∃ kp fl n, execFn tt T G kp fl n Tryd.f12 (E12 a0) = some (R12 a0 x) := by
 simp only [E12, R12]
 refine fnE (kp := kp12) (w := false) body12 ?_
 unfold c12
 rw [Tryd.ntmps12]
 unfold Lref36_Signals at hr
 refine ee_seq_reg rfl (by simp []; rfl) ?_
 refine ee_assoc ?_
 refine ee_seq_reg rfl (by simp []; rfl) ?_
 refine ee_seq_block ?_
 refine ee_loop (kq := ⟨[1, 3], [1], []⟩) (H := fun (s : Int) => match s with | p4 => (⟨(und 1 ++ ([.ptr 1 0 0 0 4] ++ (und 1 ++ ([.one (.v (.int .i64 p4))] ++ (und 14)))) : List PV), ([(1, ⟨0, 4, [[.v (.int .u32 a0.1), .slice .no (List.map eapi_Input a0.2.1), .slice .no (List.map eapi_Output a0.2.2.1), .v (.int .u32 a0.2.2.2)]], false, false⟩)] : Boxes)⟩ : ASt)) (by kernel_rfl) hr (by simp [und, List.replicate, ]) ?_
 rintro p4 x7r hr7
 simp only [Lref36_Signals_s1] at hr7
 unfold b12_1
 simp only [und, List.replicate, List.cons_append, List.nil_append]
 refine ee_assoc ?_
 refine ee_seq_reg rfl (by simp []; rfl) ?_
 by_cases c8 : p4 < (a0.2.1.length : Int)
 ·skip
  have c8N := c8
  try simp at c8N
  first | have c8M : (_ = _) = True := eq_true c8N | have c8M := c8N
  rw [if_pos] at hr7
  rotate_left
  ·simp [c8, c8M]
  refine ee_seq_condT (by simp [bV, c8, c8M]) ?_
  refine ee_seq_skip ?_
  refine ee_seq_block ?_
  obtain ⟨x9, hx9, hr7⟩ := bs hr7
  obtain ⟨hx9a, hx9b⟩ := idx_some hx9
  have hx9c := getE_of hx9b
  refine ee_seq_reg rfl (by simp [hx9a, hx9b, hx9c, c8, c8M]; rfl) ?_
  by_cases c10 : x9.2.1 < 4294967294
  ·skip
   rw [if_pos c10] at hr7
   refine ee_condT (by simp [bV, c8, c8M, c10]) ?_
   refine ee_seq_reg rfl (by simp [c8, c8M, c10]; rfl) ?_
   refine ee_ret ?_
   obtain rfl := Option.some.inj hr7
   simp only [pq, reduceCtorEq]
   rintro rfl
   simp [FinQ, c8, c8M, c10]
  ·skip
   rw [if_neg c10] at hr7
   refine ee_condF (by simp [bV, c8, c8M, c10]) ?_
   refine ee_skip ?_
   simp only [pq, reduceCtorEq]
   refine ee_reg rfl (by simp [c8, c8M, c10]; rfl) ?_
   obtain rfl := Option.some.inj hr7
   simp only [pq, reduceCtorEq]
   simp [und, List.replicate, Nat.add_assoc, c8, c8M, c10]
 ·skip
  have c8N := c8
  try simp at c8N
  first | have c8M : (_ = _) = True := eq_true c8N | have c8M := c8N
  rw [if_neg] at hr7
  rotate_left
  ·simp [c8, c8M]
  refine ee_seq_condF (by simp [bV, c8, c8M]) ?_
  refine ee_seq_exit ?_
  obtain ⟨r11, q11, rfl⟩ := ms hr7
  simp only [pq, reduceCtorEq]
  rintro rfl
  try simp only [pq, reduceCtorEq]
  unfold Lref36_Signals_k1 at q11
  refine ee_seq_reg rfl (by simp [c8, c8M]; rfl) ?_
  refine ee_ret ?_
  obtain rfl := Option.some.inj q11
  simp [FinQ, c8, c8M]
def kp14 : Keep := fun i => if i = 2 then ⟨[2, 3, 5], [2, 3], []⟩ else if i = 5 then ⟨[2, 3, 5, 6], [2, 3], []⟩ else ⟨[], [], []⟩
theorem w14 {T : Tab} (a0 : Tapi_Tx) (a1 : Tapi_Tx) (x : Bool) (hr : Lref36_Conflict a0 a1 = some x) : ∃ kp fl n, execFn tt T G kp fl n Tryd.f14 (E14 (a0, a1)) = some (R14 (a0, a1) x) := by
 simp only [E14, R14]
 refine fnE (kp := kp14) (w := false) body14 ?_
 unfold c14
 rw [Tryd.ntmps14]
 unfold Lref36_Conflict at hr
 refine ee_seq_reg rfl (by simp []; rfl) ?_
 refine ee_assoc ?_
 refine ee_seq_reg rfl (by simp []; rfl) ?_
 refine ee_seq_block ?_
 refine ee_loop (kq := ⟨[2, 3, 5], [2, 3], []⟩) (H := fun (s : Int) => match s with | p18 => (⟨(und 2 ++ ([.ptr 2 0 0 0 4, .ptr 3 0 0 0 4] ++ (und 1 ++ ([.one (.v (.int .i64 p18))] ++ (und 28)))) : List PV), ([(2, ⟨0, 4, [[.v (.int .u32 a0.1), .slice .no (List.map eapi_Input a0.2.1), .slice .no (List.map eapi_Output a0.2.2.1), .v (.int .u32 a0.2.2.2)]], false, false⟩), (3, ⟨0, 4, [[.v (.int .u32 a1.1), .slice .no (List.map eapi_Input a1.2.1), .slice .no (List.map eapi_Output a1.2.2.1), .v (.int .u32 a1.2.2.2)]], false, false⟩)] : Boxes)⟩ : ASt)) (by kernel_rfl) hr (by simp [und, List.replicate, ]) ?_
 rintro p18 x37r hr37
 simp only [Lref36_Conflict_s1] at hr37
 unfold b14_1
 simp only [und, List.replicate, List.cons_append, List.nil_append]
 refine ee_assoc ?_
 refine ee_seq_reg rfl (by simp []; rfl) ?_
 by_cases c38 : p18 < (a0.2.1.length : Int)
 ·skip
  have c38N := c38
  try simp at c38N
  first | have c38M : (_ = _) = True := eq_true c38N | have c38M := c38N
  rw [if_pos] at hr37
  rotate_left
  ·simp [c38, c38M]
  refine ee_seq_condT (by simp [bV, c38, c38M]) ?_
  refine ee_seq_skip ?_
  refine ee_seq_block ?_
  refine ee_seq_reg rfl (by simp [c38, c38M]; rfl) ?_
  refine ee_block ?_
  refine ee_loop (kq := ⟨[2, 3, 5, 6], [2, 3], []⟩) (H := fun (s : Int) => match s with | p32 => (⟨(und 2 ++ ([.ptr 2 0 0 0 4, .ptr 3 0 0 0 4] ++ (und 1 ++ ([.one (.v (.int .i64 p18)), .one (.v (.int .i64 p32))] ++ (und 27)))) : List PV), ([(2, ⟨0, 4, [[.v (.int .u32 a0.1), .slice .no (List.map eapi_Input a0.2.1), .slice .no (List.map eapi_Output a0.2.2.1), .v (.int .u32 a0.2.2.2)]], false, false⟩), (3, ⟨0, 4, [[.v (.int .u32 a1.1), .slice .no (List.map eapi_Input a1.2.1), .slice .no (List.map eapi_Output a1.2.2.1), .v (.int .u32 a1.2.2.2)]], false, false⟩)] : Boxes)⟩ : ASt)) (by kernel_rfl) hr37 (by simp [und, List.replicate, c38, c38M]) ?_
  rintro p32 x39r hr39
  simp only [Lref36_Conflict_s2] at hr39
  unfold b14_2
  simp only [und, List.replicate, List.cons_append, List.nil_append]
  refine ee_assoc ?_
  refine ee_seq_reg rfl (by simp [c38, c38M]; rfl) ?_
  by_cases c40 : p32 < (a1.2.1.length : Int)
  ·skip
   have c40N := c40
   try simp at c40N
   first | have c40M : (_ = _) = True := eq_true c40N | have c40M := c40N
   rw [if_pos] at hr39
   rotate_left
   ·simp [c38, c38M, c40, c40M]
   refine ee_seq_condT (by simp [bV, c38, c38M, c40, c40M]) ?_
   refine ee_seq_skip ?_
   refine ee_seq_block ?_
   obtain ⟨x41, hx41, hr39⟩ := bs hr39
   obtain ⟨hx41a, hx41b⟩ := idx_some hx41
   have hx41c := getE_of hx41b
   obtain ⟨x42, hx42, hr39⟩ := bs hr39
   obtain ⟨hx42a, hx42b⟩ := idx_some hx42
   have hx42c := getE_of hx42b
   refine ee_seq_draw rfl (by simp [hx41a, hx41b, hx41c, hx42a, hx42b, hx42c, c38, c38M, c40, c40M]; first | exact ⟨rfl, rfl⟩ | rfl) (by kernel_rfl) ?_
   by_cases c43 : x41.1.1 = x42.1.1
   ·skip
    by_cases c44 : x41.1.2 = x42.1.2
    ·skip
     rw [if_pos] at hr39
     rotate_left
     ·simp [c38, c38M, c40, c40M, eq_true c43, eq_true c44]
     refine ee_condT (by simp [bV, c38, c38M, c40, c40M, eq_true c43, eq_true c44]) ?_
     refine ee_seq_reg rfl (by simp [c38, c38M, c40, c40M, eq_true c43, eq_true c44]; rfl) ?_
     refine ee_ret ?_
     obtain rfl := Option.some.inj hr39
     simp only [pq, reduceCtorEq]
     rintro rfl
     simp only [pq, reduceCtorEq]
     rintro rfl
     simp [FinQ, c38, c38M, c40, c40M, eq_true c43, eq_true c44]
    ·skip
     rw [if_neg] at hr39
     rotate_left
     ·simp [c38, c38M, c40, c40M, eq_true c43, c44]
     refine ee_condF (by simp [bV, c38, c38M, c40, c40M, eq_true c43, c44]) ?_
     refine ee_skip ?_
     simp only [pq, reduceCtorEq]
     refine ee_reg rfl (by simp [c38, c38M, c40, c40M, eq_true c43, c44]; rfl) ?_
     obtain rfl := Option.some.inj hr39
     simp only [pq, reduceCtorEq]
     simp [und, List.replicate, Nat.add_assoc, c38, c38M, c40, c40M, eq_true c43, c44]
   ·skip
    rw [if_neg] at hr39
    rotate_left
    ·simp [c38, c38M, c40, c40M, c43]
    refine ee_condF (by simp [bV, c38, c38M, c40, c40M, c43]) ?_
    refine ee_skip ?_
    simp only [pq, reduceCtorEq]
    refine ee_reg rfl (by simp [c38, c38M, c40, c40M, c43]; rfl) ?_
    obtain rfl := Option.some.inj hr39
    simp only [pq, reduceCtorEq]
    simp [und, List.replicate, Nat.add_assoc, c38, c38M, c40, c40M, c43]
  ·skip
   have c40N := c40
   try simp at c40N
   first | have c40M : (_ = _) = True := eq_true c40N | have c40M := c40N
   rw [if_neg] at hr39
   rotate_left
   ·simp [c38, c38M, c40, c40M]
   refine ee_seq_condF (by simp [bV, c38, c38M, c40, c40M]) ?_
   refine ee_seq_exit ?_
   obtain ⟨r45, q45, rfl⟩ := ms hr39
   simp only [pq, reduceCtorEq]
   rintro rfl
   try simp only [pq, reduceCtorEq]
   unfold Lref36_Conflict_k2 at q45
   refine ee_reg rfl (by simp [c38, c38M, c40, c40M]; rfl) ?_
   obtain rfl := Option.some.inj q45
   simp only [pq, reduceCtorEq]
   simp [und, List.replicate, Nat.add_assoc, c38, c38M, c40, c40M]
 ·skip
  have c38N := c38
  try simp at c38N
  first | have c38M : (_ = _) = True := eq_true c38N | have c38M := c38N
  rw [if_neg] at hr37
  rotate_left
  ·simp [c38, c38M]
  refine ee_seq_condF (by simp [bV, c38, c38M]) ?_
  refine ee_seq_exit ?_
  obtain ⟨r46, q46, rfl⟩ := ms hr37
  simp only [pq, reduceCtorEq]
  rintro rfl
  try simp only [pq, reduceCtorEq]
  unfold Lref36_Conflict_k1 at q46
  refine ee_seq_reg rfl (by simp [c38, c38M]; rfl) ?_
  refine ee_ret ?_
  obtain rfl := Option.some.inj q46
  simp [FinQ, c38, c38M]
def kp3 : Keep := fun i => ⟨[], [], []⟩
theorem w3 {T : Tab} (hT8 : T 8 = some G8) (hT9 : T 9 = some G9) (hT10 : T 10 = some G10) (hT11 : T 11 = some G11) (hT12 : T 12 = some G12) (hT13 : T 13 = some G13) (hT14 : T 14 = some G14) (a0 : (List Int)) (a1 : Int) (a2 : Int) (x : Bool) (hr : Llaw36_ReplaceSignals a0 a1 a2 = some x) : ∃ kp fl n, execFn tt T G kp fl n Tryd.f3 (E3 (a0, a1, a2)) = some (R3 (a0, a1, a2) x) := by
 simp only [E3, R3]
 refine fnE (kp := kp3) (w := false) body3 ?_
 unfold c3
 rw [Tryd.ntmps3]
 unfold Llaw36_ReplaceSignals at hr
 refine ee_seq_reg rfl (by simp []; rfl) ?_
 refine ee_assoc ?_
 obtain ⟨y19, hy19, hr⟩ := bs hr
 have ehy19 := G8_eq hy19
 simp only [E8, R8, nf, nfs] at ehy19
 refine ee_seq_reg rfl (by simp [hT8, ehy19]; rfl) ?_
 by_cases c20 : y19 = true
 ·skip
  rw [if_neg (not_not_intro c20)] at hr
  refine ee_seq_condF (by simp [bV, c20]) ?_
  refine ee_seq_skip ?_
  obtain ⟨y21, hy21, hr⟩ := bs hr
  have ehy21 := G9_eq hy21
  simp only [E9, R9, nf, nfs] at ehy21
  refine ee_seq_reg rfl (by simp [hT9, ehy21, c20]; rfl) ?_
  obtain ⟨y22, hy22, hr⟩ := bs hr
  have ehy22 := G10_eq hy22
  simp only [E10, R10, nf, nfs] at ehy22
  obtain ⟨y23, hy23, hr⟩ := bs hr
  have ehy23 := G10_eq hy23
  simp only [E10, R10, nf, nfs] at ehy23
  refine ee_seq_reg rfl (by simp [hT10, ehy22, ehy23, c20]; rfl) ?_
  refine ee_seq_reg rfl (by simp [List.range, List.range.loop, c20]; rfl) ?_
  obtain ⟨y24, hy24, hr⟩ := bs hr
  have ehy24 := G11_eq hy24
  simp only [E11, R11, nf, nfs] at ehy24
  obtain ⟨y25, hy25, hr⟩ := bs hr
  have ehy25 := G12_eq hy25
  simp only [E12, R12, nf, nfs] at ehy25
  by_cases c26 : (y24 == y25) = true
  ·skip
   rw [if_pos] at hr
   rotate_left
   ·simp [c20, c26]
   obtain ⟨z27, hz27, hr⟩ := bs hr
   obtain ⟨y28, hy28, hz27⟩ := bs hz27
   have ehy28 := G11_eq hy28
   simp only [E11, R11, nf, nfs] at ehy28
   obtain ⟨y29, hy29, hz27⟩ := bs hz27
   have ehy29 := G12_eq hy29
   simp only [E12, R12, nf, nfs] at ehy29
   obtain rfl := Option.some.inj hz27
   by_cases c30 : (y28 == y29) = true
   ·skip
    rw [if_pos] at hr
    rotate_left
    ·simp [c20, c26, c30]
    obtain ⟨z31, hz31, hr⟩ := bs hr
    obtain ⟨y32, hy32, hz31⟩ := bs hz31
    have ehy32 := G13_eq hy32
    simp only [E13, R13, nf, nfs] at ehy32
    obtain ⟨y33, hy33, hz31⟩ := bs hz31
    have ehy33 := G14_eq hy33
    simp only [E14, R14, nf, nfs] at ehy33
    obtain rfl := Option.some.inj hz31
    by_cases c34 : (y32 == y33) = true
    ·skip
     rw [if_pos] at hr
     rotate_left
     ·simp [c20, c26, c30, c34]
     obtain ⟨z35, hz35, hr⟩ := bs hr
     obtain ⟨y36, hy36, hz35⟩ := bs hz35
     have ehy36 := G13_eq hy36
     simp only [E13, R13, nf, nfs] at ehy36
     obtain ⟨y37, hy37, hz35⟩ := bs hz35
     have ehy37 := G14_eq hy37
     simp only [E14, R14, nf, nfs] at ehy37
     obtain rfl := Option.some.inj hz35
     by_cases c38 : (y36 == y37) = true
     ·skip
      rw [if_pos] at hr
      rotate_left
      ·simp [c20, c26, c30, c34, c38]
      obtain ⟨z39, hz39, hr⟩ := bs hr
      obtain ⟨y40, hy40, hz39⟩ := bs hz39
      have ehy40 := G13_eq hy40
      simp only [E13, R13, nf, nfs] at ehy40
      obtain ⟨y41, hy41, hz39⟩ := bs hz39
      have ehy41 := G14_eq hy41
      simp only [E14, R14, nf, nfs] at ehy41
      obtain rfl := Option.some.inj hz39
      refine ee_seq_draw rfl (by simp [hT11, ehy24, hT12, ehy25, ehy28, ehy29, hT13, ehy32, hT14, ehy33, ehy36, ehy37, ehy40, ehy41, c20, c26, c30, c34, c38]; first | exact ⟨rfl, rfl⟩ | rfl) (by kernel_rfl) ?_
      refine ee_ret ?_
      obtain rfl := Option.some.inj hr
      simp [FinQ, hT11, ehy24, hT12, ehy25, ehy28, ehy29, hT13, ehy32, hT14, ehy33, ehy36, ehy37, ehy40, ehy41, c20, c26, c30, c34, c38]
     ·skip
      rw [if_neg] at hr
      rotate_left
      ·simp [c20, c26, c30, c34, c38]
      obtain ⟨z42, hz42, hr⟩ := bs hr
      obtain rfl := Option.some.inj hz42
      refine ee_seq_draw rfl (by simp [hT11, ehy24, hT12, ehy25, ehy28, ehy29, hT13, ehy32, hT14, ehy33, ehy36, ehy37, c20, c26, c30, c34, c38]; first | exact ⟨rfl, rfl⟩ | rfl) (by kernel_rfl) ?_
      refine ee_ret ?_
      obtain rfl := Option.some.inj hr
      simp [FinQ, hT11, ehy24, hT12, ehy25, ehy28, ehy29, hT13, ehy32, hT14, ehy33, ehy36, ehy37, c20, c26, c30, c34, c38]
    ·skip
     rw [if_neg] at hr
     rotate_left
     ·simp [c20, c26, c30, c34]
     obtain ⟨z43, hz43, hr⟩ := bs hr
     obtain rfl := Option.some.inj hz43
     rw [if_neg] at hr
     rotate_left
     ·simp [c20, c26, c30, c34]
     obtain ⟨z44, hz44, hr⟩ := bs hr
     obtain rfl := Option.some.inj hz44
     refine ee_seq_draw rfl (by simp [hT11, ehy24, hT12, ehy25, ehy28, ehy29, hT13, ehy32, hT14, ehy33, c20, c26, c30, c34]; first | exact ⟨rfl, rfl⟩ | rfl) (by kernel_rfl) ?_
     refine ee_ret ?_
     obtain rfl := Option.some.inj hr
     simp [FinQ, hT11, ehy24, hT12, ehy25, ehy28, ehy29, hT13, ehy32, hT14, ehy33, c20, c26, c30, c34]
   ·skip
    rw [if_neg] at hr
    rotate_left
    ·simp [c20, c26, c30]
    obtain ⟨z45, hz45, hr⟩ := bs hr
    obtain rfl := Option.some.inj hz45
    rw [if_neg] at hr
    rotate_left
    ·simp [c20, c26, c30]
    obtain ⟨z46, hz46, hr⟩ := bs hr
    obtain rfl := Option.some.inj hz46
    rw [if_neg] at hr
    rotate_left
    ·simp [c20, c26, c30]
    obtain ⟨z47, hz47, hr⟩ := bs hr
    obtain rfl := Option.some.inj hz47
    refine ee_seq_draw rfl (by simp [hT11, ehy24, hT12, ehy25, ehy28, ehy29, c20, c26, c30]; first | exact ⟨rfl, rfl⟩ | rfl) (by kernel_rfl) ?_
    refine ee_ret ?_
    obtain rfl := Option.some.inj hr
    simp [FinQ, hT11, ehy24, hT12, ehy25, ehy28, ehy29, c20, c26, c30]
  ·skip
   rw [if_neg] at hr
   rotate_left
   ·simp [c20, c26]
   obtain ⟨z48, hz48, hr⟩ := bs hr
   obtain rfl := Option.some.inj hz48
   rw [if_neg] at hr
   rotate_left
   ·simp [c20, c26]
   obtain ⟨z49, hz49, hr⟩ := bs hr
   obtain rfl := Option.some.inj hz49
   rw [if_neg] at hr
   rotate_left
   ·simp [c20, c26]
   obtain ⟨z50, hz50, hr⟩ := bs hr
   obtain rfl := Option.some.inj hz50
   rw [if_neg] at hr
   rotate_left
   ·simp [c20, c26]
   obtain ⟨z51, hz51, hr⟩ := bs hr
   obtain rfl := Option.some.inj hz51
   refine ee_seq_draw rfl (by simp [hT11, ehy24, hT12, ehy25, c20, c26]; first | exact ⟨rfl, rfl⟩ | rfl) (by kernel_rfl) ?_
   refine ee_ret ?_
   obtain rfl := Option.some.inj hr
   simp [FinQ, hT11, ehy24, hT12, ehy25, c20, c26]
 ·skip
  rw [if_pos c20] at hr
  refine ee_seq_condT (by simp [bV, c20]) ?_
  refine ee_assoc ?_
  refine ee_seq_reg rfl (by simp [c20]; rfl) ?_
  refine ee_seq_ret ?_
  obtain rfl := Option.some.inj hr
  simp [FinQ, c20]
end Go.Proofs.YtconfbgcjkjnkaaDoor
