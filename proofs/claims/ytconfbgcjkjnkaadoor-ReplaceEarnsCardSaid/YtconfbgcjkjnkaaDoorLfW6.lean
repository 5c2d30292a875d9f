import Derived.Test.YtconfbgcjkjnkaaDoorLfK
import Derived.Test.YtconfbgcjkjnkaaDoorCode
namespace Go.Proofs.YtconfbgcjkjnkaaDoor
open Go.RowKit
open Go.Av
open Go.Lc
set_option maxRecDepth 100000
set_option linter.unusedSimpArgs false
set_option linter.unusedVariables false
set_option maxHeartbeats 4000000
theorem w25 : Walk tt G [] (fun _ => []) Tryd.f25 K25 := by
 refine .of [(1000004, ⟨[5], [], []⟩)] false body25 Tryd.ntmps25 fun T hO hT ⟨a0, a1⟩ x hr => ⟨by simp, ?_⟩
 simp only [tabAll] at hT; simp only at hr ⊢; unfold c25
 unfold Lmill_Mod at hr
 refine go ?_
 obtain ⟨_, hr⟩ := bC hr
 refine go ?_
 refine ee_seq_J hr (fun (s : Int) => match s with | p2 => (⟨(und 5 ++ ([.one (.v (.int .i64 p2))] ++ (und 9)) : List PV), ([] : Boxes)⟩ : ASt)) (fun (s : Int) => match s with | p2 => Lmill_Mod_k1 p2) ?_ ?_
 ·rintro p2 hk5
  change Lmill_Mod_k1 p2 = _ at hk5
  refine nst ?_
  unfold Lmill_Mod_k1 at hk5
  refine ee_seq_regJ rfl (kq := ⟨[5], [], []⟩) rfl (by simp [joinSt, *]; rfl) (by simp [*]; rfl) ?_
  refine go ?_
  exact fin hk5
 ·intro J5
  by_cases c6 : (a0).tmod a1 < 0
  ·replace hr := ifP hr
   refine go ?_
   exact jn 1000004 (J5 (IntKind.i64.wrap (((a0).tmod a1) + a1)) hr)
  ·replace hr := ifN hr
   refine go ?_
   exact jn 1000004 (J5 ((a0).tmod a1) hr)
theorem w38 : Walk tt G [] (fun _ => []) Tryd.f38 K38 := by
 refine .of [] false body38 Tryd.ntmps38 fun T hO hT a0 x hr => ⟨by simp, ?_⟩
 simp only [tabAll] at hT; simp only at hr ⊢; unfold c38
 unfold Lmill_Deck_Left at hr
 refine go ?_
 exact fin hr
theorem w17 : Walk tt G [(25, K25.G), (38, K38.G)] (fun _ => []) Tryd.f17 K17 := by
 refine .of [] false body17 Tryd.ntmps17 fun T hO hT ⟨a0, a1⟩ x hr => ⟨by simp, ?_⟩
 simp only [tabAll] at hT; simp only at hr ⊢; unfold c17
 unfold Lmill_Deck_Next at hr
 refine go ?_
 obtain ⟨y4, ehy4, hr⟩ := bN hr G38_eq
 refine go ?_
 by_cases c5 : y4.1 = true
 ·replace hr := ifN hr
  refine go ?_
  obtain ⟨_, ⟨_, _, _⟩, hr⟩ := bI hr
  obtain ⟨_, ehy7, hr⟩ := bN hr G25_eq
  refine go ?_
  exact fin hr
 ·replace hr := ifP hr
  refine go ?_
  exact fin hr
theorem w23 : Walk tt G [] (fun _ => []) Tryd.f23 K23 := by
 refine .of [] true body23 Tryd.ntmps23 fun T hO hT a0 x hr => ⟨by simp, ?_⟩
 simp only [tabAll] at hT; simp only at hr ⊢; unfold c23
 unfold Lmade_Script at hr
 refine goR ?_
 exact fin hr
theorem w31 : Walk tt G [(17, K17.G)] (fun _ => []) Tryd.f31 K31 := by
 refine .of [] false body31 Tryd.ntmps31 fun T hO hT ⟨a0, a1, a2⟩ x hr => ⟨by simp, ?_⟩
 simp only [tabAll] at hT; simp only at hr ⊢; unfold c31
 unfold Lmill_Deck_Range at hr
 refine go ?_
 obtain ⟨_, ehy2, hr⟩ := bN hr G17_eq
 refine go ?_
 exact fin hr
theorem w32 : Walk tt G [(17, K17.G)] (fun _ => []) Tryd.f32 K32 := by
 refine .of [] false body32 Tryd.ntmps32 fun T hO hT a0 x hr => ⟨by simp, ?_⟩
 simp only [tabAll] at hT; simp only at hr ⊢; unfold c32
 unfold Lmill_Hash at hr
 refine go ?_
 obtain ⟨_, ehy3, hr⟩ := bN hr G17_eq
 obtain ⟨_, ehy4, hr⟩ := bN hr G17_eq
 refine go ?_
 exact fin hr
theorem w10 : Walk tt G [(17, K17.G), (23, K23.G), (31, K31.G), (32, K32.G)] (fun _ => []) Tryd.f10 K10 := by
 refine .of [(3, ⟨[0, 2, 3, 4], [2, 3, 45, 1000000], [(3, some 1, 45, 35)]⟩), (10, ⟨[0, 2, 3, 6], [2, 3, 45, 63, 1000000], [(3, some 2, 63, 2)]⟩)] true body10 Tryd.ntmps10 fun T hO hT a0 x hr => ⟨by simp, ?_⟩
 simp only [tabAll] at hT; simp only at hr ⊢; unfold c10
 unfold Lmill_Tx at hr
 refine goR ?_
 obtain ⟨y72, ehy72, hr⟩ := bN hr G17_eq
 obtain ⟨y73, ehy73, hr⟩ := bN hr G17_eq
 refine goR ?_
 obtain ⟨_, ehy74, hr⟩ := bN hr G31_eq
 refine goR ?_
 refine lp 3 (fun (⟨p26, p27, p28⟩ : Int × Tlightclientmill_Deck × (List Tapi_Input)) => ⟨([.ptr 1000000 0 0 0 2] ++ (und 1 ++ ([.ptr 2 0 0 0 4, .ptr 3 0 0 0 4, .one (.v (.int .i64 p26))] ++ (und 61))) : List PV), ([(2, ⟨0, 4, [[.v (.int .u32 0), .slice .nil [], .slice .nil [], .v (.int .u32 0)]], false, false⟩), (3, ⟨0, 4, [[.v (.int .u32 (IntKind.u32.wrap (y72.1))), .ms 45 0 0 (p28.length) 35, .slice .nil [], .v (.int .u32 (IntKind.u32.wrap (y73.1)))]], false, false⟩), (45, ⟨0, 35, List.map eapi_Input p28, false, true⟩), (1000000, ⟨0, 2, [[.slice .no (intsR .i64 p27.1), .v (.int .i64 p27.2)]], false, false⟩)] : Boxes)⟩) hr ?_
 rintro ⟨p26, p27, p28⟩ x90r hr90
 simp only [Lmill_Tx_s1] at hr90
 unfold b10_1
 refine nst ?_
 refine goR ?_
 by_cases c91 : 0 < p26
 ·replace hr90 := ifP hr90
  refine goR ?_
  obtain ⟨_, ehy92, hr90⟩ := bN hr90 G32_eq
  obtain ⟨_, ehy93, hr90⟩ := bN hr90 G17_eq
  obtain ⟨_, ehy94, hr90⟩ := bN hr90 G17_eq
  obtain ⟨j95, ⟨_, _, _⟩, hr90⟩ := bA hr90
  have j95d : j95 ≤ 3 := by omega
  obtain ⟨x96, hx96, hr90⟩ := bs hr90
  have ghx96 := getE_of hx96
  have mhx96 : (intsR .u32 ([4294967295, 4294967294, 4294967293, 0]))[j95]? = some [.v (.int .u32 x96)] := by rw [intsR_get, hx96]; rfl
  simp only [intsR_cons, intsR_nil] at mhx96
  have mghx96 := getE_of mhx96
  refine goR ?_
  obtain ⟨y97, ehy97, hr90⟩ := bN hr90 G17_eq
  refine goR ?_
  rcases eqT (y97.1 = 0) with c100 | c100
  ·replace hr90 := ifP hr90
   refine goR ?_
   obtain ⟨_, ehy101, hr90⟩ := bN hr90 G17_eq
   refine goR ?_
   unfold Lmill_Tx_k3 at hr90
   obtain ⟨_, hr90⟩ := bC hr90
   have n1_u102_0 : (p28.length + 1) * 64 ≤ 140737488355328 := by omega
   have n2_u102_0 : p28.length + 1 ≤ 9223372036854775807 := by omega
   refine goR ?_
   exact bk hr90
  ·replace hr90 := ifN hr90
   refine goR ?_
   unfold Lmill_Tx_k3 at hr90
   obtain ⟨_, hr90⟩ := bC hr90
   have n1_u103_0 : (p28.length + 1) * 64 ≤ 140737488355328 := by omega
   have n2_u103_0 : p28.length + 1 ≤ 9223372036854775807 := by omega
   refine goR ?_
   exact bk hr90
 ·replace hr90 := ifN hr90
  refine goR ?_
  obtain ⟨r104, q104, rfl⟩ := ms hr90
  refine goR ?_
  rintro rfl
  refine goR ?_
  unfold Lmill_Tx_k1 at q104
  refine goR ?_
  obtain ⟨_, ehy105, q104⟩ := bN q104 G31_eq
  refine goR ?_
  refine lp 10 (fun (⟨p50, p51, p52⟩ : Int × Tlightclientmill_Deck × (List Tapi_Output)) => ⟨([.ptr 1000000 0 0 0 2] ++ (und 1 ++ ([.ptr 2 0 0 0 4, .ptr 3 0 0 0 4] ++ (und 2 ++ ([.one (.v (.int .i64 p50))] ++ (und 59))))) : List PV), ([(2, ⟨0, 4, [[.v (.int .u32 0), .slice .nil [], .slice .nil [], .v (.int .u32 0)]], false, false⟩), (3, ⟨0, 4, [[.v (.int .u32 (IntKind.u32.wrap (y72.1))), .ms 45 0 0 (p28.length) 35, .ms 63 0 0 (p52.length) 2, .v (.int .u32 (IntKind.u32.wrap (y73.1)))]], false, false⟩), (45, ⟨0, 35, List.map eapi_Input p28, false, true⟩), (63, ⟨0, 2, List.map eapi_Output p52, false, true⟩), (1000000, ⟨0, 2, [[.slice .no (intsR .i64 p51.1), .v (.int .i64 p51.2)]], false, false⟩)] : Boxes)⟩) q104 ?_
  rintro ⟨p50, p51, p52⟩ x113r hr113
  simp only [Lmill_Tx_s2] at hr113
  unfold b10_2
  refine nst ?_
  refine goR ?_
  by_cases c114 : 0 < p50
  ·replace hr113 := ifP hr113
   refine goR ?_
   obtain ⟨_, ehy115, hr113⟩ := bN hr113 G17_eq
   obtain ⟨_, ehy116, hr113⟩ := bN hr113 G17_eq
   obtain ⟨_, ehy117, hr113⟩ := bN hr113 G23_eq
   obtain ⟨_, hr113⟩ := bC hr113
   have n1_u118_0 : (p52.length + 1) * 32 ≤ 140737488355328 := by omega
   have n2_u118_0 : p52.length + 1 ≤ 9223372036854775807 := by omega
   refine goR ?_
   exact bk hr113
  ·replace hr113 := ifN hr113
   refine goR ?_
   obtain ⟨r119, q119, rfl⟩ := ms hr113
   refine goR ?_
   rintro rfl
   refine goR ?_
   unfold Lmill_Tx_k2 at q119
   refine goR ?_
   exact fin q119
end Go.Proofs.YtconfbgcjkjnkaaDoor
