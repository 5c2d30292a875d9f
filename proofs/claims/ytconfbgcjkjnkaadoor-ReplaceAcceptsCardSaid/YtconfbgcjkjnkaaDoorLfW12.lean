import Derived.Test.YtconfbgcjkjnkaaDoorLfK
import Derived.Test.YtconfbgcjkjnkaaDoorCode
namespace Go.Proofs.YtconfbgcjkjnkaaDoor
open Go.RowKit
open Go.Av
open Go.Lc
set_option maxRecDepth 100000
set_option linter.unusedSimpArgs false
set_option linter.unusedVariables false
set_option maxHeartbeats 4000000
def kp4 : Keep := fun i => if i = 9 then ⟨[1, 5, 7, 35, 36, 37], [7, 15, 19, 28, 35, 100019, 100028], []⟩ else if i = 12 then ⟨[1, 5, 7, 9, 35, 36, 37, 44, 45, 46], [7, 15, 19, 28, 35, 44, 100019, 100028], []⟩ else ⟨[], [], []⟩
theorem w4 {T : Tab} (hT8 : T 8 = some G8) (hT9 : T 9 = some G9) (hT10 : T 10 = some G10) (hT15 : T 15 = some G15) (hT16 : T 16 = some G16) (hT17 : T 17 = some G17) (hT18 : T 18 = some G18) (hT19 : T 19 = some G19) (a0 : (List Int)) (a1 : Int) (x : Bool) (hr : Llaw36_ReplaceAccepts a0 a1 = some x) : ∃ kp fl n, execFn tt T G kp fl n Tryd.f4 (E4 (a0, a1)) = some (R4 (a0, a1) x) := by
 simp only [E4, R4]
 refine fnE (kp := kp4) (w := false) body4 ?_
 unfold c4
 rw [Tryd.ntmps4]
 unfold Llaw36_ReplaceAccepts at hr
 refine ee_seq_reg rfl (by simp []; rfl) ?_
 refine ee_assoc ?_
 obtain ⟨y126, hy126, hr⟩ := bs hr
 have ehy126 := G8_eq hy126
 simp only [E8, R8, nf, nfs] at ehy126
 refine ee_seq_reg rfl (by simp [hT8, ehy126]; rfl) ?_
 by_cases c127 : y126 = true
 ·skip
  rw [if_neg (not_not_intro c127)] at hr
  refine ee_seq_condF (by simp [bV, c127]) ?_
  refine ee_seq_skip ?_
  obtain ⟨y128, hy128, hr⟩ := bs hr
  have ehy128 := G9_eq hy128
  simp only [E9, R9, nf, nfs] at ehy128
  refine ee_seq_reg rfl (by simp [hT9, ehy128, c127]; rfl) ?_
  obtain ⟨y129, hy129, hr⟩ := bs hr
  have ehy129 := G15_eq hy129
  simp only [E15, R15, nf, nfs] at ehy129
  refine ee_seq_reg rfl (by simp [hT15, ehy129, c127]; rfl) ?_
  obtain ⟨y130, hy130, hr⟩ := bs hr
  have ehy130 := G10_eq hy130
  simp only [E10, R10, nf, nfs] at ehy130
  refine ee_seq_reg rfl (by simp [hT10, ehy130, c127]; rfl) ?_
  refine ee_assoc ?_
  refine ee_seq_reg rfl (by simp [c127]; rfl) ?_
  by_cases c131 : 0 < (y129.1.length : Int)
  ·skip
   have c131N := c131
   try simp at c131N
   first | have c131M : (_ = _) = True := eq_true c131N | have c131M := c131N
   rw [if_pos c131] at hr
   refine ee_seq_condT (by simp [bV, c127, c131, c131M]) ?_
   obtain ⟨_, u132, hr⟩ := bs hr
   have u132_0 := chk_some u132
   obtain ⟨x133, hx133, hr⟩ := bs hr
   have ghx133 := getE_of hx133
   obtain ⟨y134, hy134, hr⟩ := bs hr
   have ehy134 := G16_eq hy134
   simp only [E16, R16, nf, nfs] at ehy134
   refine ee_seq_reg rfl (by simp [u132_0, hx133, ghx133, hT16, ehy134, c127, c131, c131M]; rfl) ?_
   unfold Llaw36_ReplaceAccepts_k1 at hr
   refine ee_assoc ?_
   obtain ⟨_, u135, hr⟩ := bs hr
   obtain ⟨u135_0, u135_1⟩ := chk_some u135
   have sf136 : ((if (y129.1.length : Int) < 1 then (y129.1.length : Int) else 1)).toNat ≤ y129.1.length := by omega
   have sf137 : 0 ≤ (if (y129.1.length : Int) < 1 then (y129.1.length : Int) else 1) := by omega
   refine ee_seq_reg rfl (by simp [u135_0, u135_1, sf136, sf137, List.range, List.range.loop, c127, c131, c131M]; rfl) ?_
   refine ee_seq_block ?_
   refine ee_loop (kq := ⟨[1, 5, 7, 35, 36, 37], [7, 15, 19, 28, 35, 100019, 100028], []⟩) (H := fun (s : Int × Tlightclientmill_Deck) => match s with | (p44, p45) => (⟨(und 1 ++ ([.one (.v (.int .i64 a1))] ++ (und 3 ++ ([.ptr 15 0 0 0 2] ++ (und 1 ++ ([.ptr 7 0 0 0 4] ++ (und 27 ++ ([.one (.ms 35 0 0 (3) 1), .one (.v (.int .i64 (3 : Int))), .one (.v (.int .i64 p44))] ++ (und 23)))))))) : List PV), ([(7, ⟨0, 4, [[.v (.int .u32 y134.1.1), .ms 28 0 0 (y134.1.2.1.length) 35, .ms 100028 0 0 (y134.1.2.2.1.length) 2, .v (.int .u32 y134.1.2.2.2)]], false, false⟩), (15, ⟨0, 2, [[.slice .no (intsR .i64 p45.1), .v (.int .i64 p45.2)]], false, false⟩), (19, ⟨0, 35, List.map eapi_Input y130.1.2.1, false, true⟩), (28, ⟨0, 35, List.map eapi_Input y134.1.2.1, false, true⟩), (35, ⟨0, 1, List.map eS_api_Entry [y129.1, ([] : (List Tapi_Entry)), (y129.1).take ((if (y129.1.length : Int) < 1 then (y129.1.length : Int) else 1)).toNat], false, true⟩), (100019, ⟨0, 2, List.map eapi_Output y130.1.2.2.1, false, true⟩), (100028, ⟨0, 2, List.map eapi_Output y134.1.2.2.1, false, true⟩)] : Boxes)⟩ : ASt)) (by kernel_rfl) hr (by simp [und, List.replicate, c127, c131, c131M]) ?_
   rintro ⟨p44, p45⟩ x138r hr138
   simp only [Llaw36_ReplaceAccepts_s1] at hr138
   unfold b4_1
   simp only [und, List.replicate, List.cons_append, List.nil_append]
   refine ee_seq_reg rfl (by simp [c127, c131, c131M]; rfl) ?_
   by_cases c139 : p44 < (3 : Int)
   ·skip
    rw [if_pos] at hr138
    rotate_left
    ·simp [c127, c131, c131M, c139]
    refine ee_seq_condT (by simp [bV, c127, c131, c131M, c139]) ?_
    refine ee_seq_skip ?_
    refine ee_seq_block ?_
    obtain ⟨j140, hj140, hr138⟩ := bs hr138
    obtain ⟨j140a, j140b, j140c⟩ := inA_some hj140
    have j140d : j140 ≤ 2 := by omega
    obtain ⟨x141, hx141, hr138⟩ := bs hr138
    have ghx141 := getE_of hx141
    have mhx141 : (List.map eS_api_Entry ([y129.1, ([] : (List Tapi_Entry)), (y129.1).take ((if (y129.1.length : Int) < 1 then (y129.1.length : Int) else 1)).toNat]))[j140]? = some (eS_api_Entry x141) := by rw [List.getElem?_map, hx141]; rfl
    simp only [List.map_cons, List.map_nil, List.map_take, List.map_drop, intsR_tk, intsR_dr, arC_lit, ints_cons, ints_nil, eS_api_Entry] at mhx141
    have mghx141 := getE_of mhx141
    refine ee_seq_reg rfl (by simp [j140a, j140b, j140c, j140d, hx141, ghx141, mhx141, mghx141, c127, c131, c131M, c139]; rfl) ?_
    obtain ⟨y142, hy142, hr138⟩ := bs hr138
    have ehy142 := G17_eq hy142
    simp only [E17, R17, nf, nfs] at ehy142
    refine ee_seq_reg rfl (by simp [hT17, ehy142, List.range, List.range.loop, c127, c131, c131M, c139]; rfl) ?_
    refine ee_block ?_
    refine ee_loop (kq := ⟨[1, 5, 7, 9, 35, 36, 37, 44, 45, 46], [7, 15, 19, 28, 35, 44, 100019, 100028], []⟩) (H := fun (s : Int) => match s with | p71 => (⟨(und 1 ++ ([.one (.v (.int .i64 a1))] ++ (und 3 ++ ([.ptr 15 0 0 0 2] ++ (und 1 ++ ([.ptr 7 0 0 0 4] ++ (und 1 ++ ([.one (.slice .no (List.map eapi_Entry x141))] ++ (und 25 ++ ([.one (.ms 35 0 0 (3) 1), .one (.v (.int .i64 (3 : Int))), .one (.v (.int .i64 p44))] ++ (und 6 ++ ([.one (.ms 44 0 0 (2) 1), .one (.v (.int .i64 (2 : Int))), .one (.v (.int .i64 p71))] ++ (und 14)))))))))))) : List PV), ([(7, ⟨0, 4, [[.v (.int .u32 y134.1.1), .ms 28 0 0 (y134.1.2.1.length) 35, .ms 100028 0 0 (y134.1.2.2.1.length) 2, .v (.int .u32 y134.1.2.2.2)]], false, false⟩), (15, ⟨0, 2, [[.slice .no (intsR .i64 y142.2.1), .v (.int .i64 y142.2.2)]], false, false⟩), (19, ⟨0, 35, List.map eapi_Input y130.1.2.1, false, true⟩), (28, ⟨0, 35, List.map eapi_Input y134.1.2.1, false, true⟩), (35, ⟨0, 1, List.map eS_api_Entry [y129.1, ([] : (List Tapi_Entry)), (y129.1).take ((if (y129.1.length : Int) < 1 then (y129.1.length : Int) else 1)).toNat], false, true⟩), (44, ⟨0, 1, intsR .i64 [a1, y142.1], false, true⟩), (100019, ⟨0, 2, List.map eapi_Output y130.1.2.2.1, false, true⟩), (100028, ⟨0, 2, List.map eapi_Output y134.1.2.2.1, false, true⟩)] : Boxes)⟩ : ASt)) (by kernel_rfl) hr138 (by simp [und, List.replicate, c127, c131, c131M, c139]) ?_
    rintro p71 x143r hr143
    simp only [Llaw36_ReplaceAccepts_s2] at hr143
    unfold b4_2
    simp only [und, List.replicate, List.cons_append, List.nil_append]
    refine ee_seq_reg rfl (by simp [c127, c131, c131M, c139]; rfl) ?_
    by_cases c144 : p71 < (2 : Int)
    ·skip
     rw [if_pos] at hr143
     rotate_left
     ·simp [c127, c131, c131M, c139, c144]
     refine ee_seq_condT (by simp [bV, c127, c131, c131M, c139, c144]) ?_
     refine ee_seq_skip ?_
     refine ee_seq_block ?_
     obtain ⟨j145, hj145, hr143⟩ := bs hr143
     obtain ⟨j145a, j145b, j145c⟩ := inA_some hj145
     have j145d : j145 ≤ 1 := by omega
     obtain ⟨x146, hx146, hr143⟩ := bs hr143
     have ghx146 := getE_of hx146
     have mhx146 : (intsR .i64 ([a1, y142.1]))[j145]? = some [.v (.int .i64 x146)] := by rw [intsR_get, hx146]; rfl
     simp only [intsR_cons, intsR_nil] at mhx146
     have mghx146 := getE_of mhx146
     refine ee_seq_reg rfl (by simp [j145a, j145b, j145c, j145d, hx146, ghx146, mhx146, mghx146, c127, c131, c131M, c139, c144]; rfl) ?_
     obtain ⟨y147, hy147, hr143⟩ := bs hr143
     have ehy147 := G18_eq hy147
     simp only [E18, R18, nf, nfs] at ehy147
     obtain ⟨y148, hy148, hr143⟩ := bs hr143
     have ehy148 := G19_eq hy148
     simp only [E19, R19, nf, nfs] at ehy148
     refine ee_seq_draw rfl (by simp [hT18, ehy147, hT19, ehy148, c127, c131, c131M, c139, c144]; first | exact ⟨rfl, rfl⟩ | rfl) (by kernel_rfl) ?_
     by_cases c149 : y147 = y148
     ·skip
      rw [if_neg (not_not_intro c149)] at hr143
      refine ee_condF (by simp [bV, c127, c131, c131M, c139, c144, eq_true c149]) ?_
      refine ee_skip ?_
      simp only [pq, reduceCtorEq]
      refine ee_reg rfl (by simp [c127, c131, c131M, c139, c144, eq_true c149]; rfl) ?_
      obtain rfl := Option.some.inj hr143
      simp only [pq, reduceCtorEq]
      simp [und, List.replicate, Nat.add_assoc, c127, c131, c131M, c139, c144, eq_true c149]
     ·skip
      rw [if_pos c149] at hr143
      refine ee_condT (by simp [bV, c127, c131, c131M, c139, c144, c149]) ?_
      refine ee_seq_reg rfl (by simp [c127, c131, c131M, c139, c144, c149]; rfl) ?_
      refine ee_ret ?_
      obtain rfl := Option.some.inj hr143
      simp only [pq, reduceCtorEq]
      rintro rfl
      simp only [pq, reduceCtorEq]
      rintro rfl
      simp [FinQ, c127, c131, c131M, c139, c144, c149]
    ·skip
     rw [if_neg] at hr143
     rotate_left
     ·simp [c127, c131, c131M, c139, c144]
     refine ee_seq_condF (by simp [bV, c127, c131, c131M, c139, c144]) ?_
     refine ee_seq_exit ?_
     obtain ⟨r150, q150, rfl⟩ := ms hr143
     simp only [pq, reduceCtorEq]
     rintro rfl
     try simp only [pq, reduceCtorEq]
     unfold Llaw36_ReplaceAccepts_k3 at q150
     refine ee_reg rfl (by simp [c127, c131, c131M, c139, c144]; rfl) ?_
     obtain rfl := Option.some.inj q150
     simp only [pq, reduceCtorEq]
     simp [und, List.replicate, Nat.add_assoc, c127, c131, c131M, c139, c144]
   ·skip
    rw [if_neg] at hr138
    rotate_left
    ·simp [c127, c131, c131M, c139]
    refine ee_seq_condF (by simp [bV, c127, c131, c131M, c139]) ?_
    refine ee_seq_exit ?_
    obtain ⟨r151, q151, rfl⟩ := ms hr138
    simp only [pq, reduceCtorEq]
    rintro rfl
    try simp only [pq, reduceCtorEq]
    unfold Llaw36_ReplaceAccepts_k2 at q151
    refine ee_seq_reg rfl (by simp [c127, c131, c131M, c139]; rfl) ?_
    refine ee_ret ?_
    obtain rfl := Option.some.inj q151
    simp [FinQ, c127, c131, c131M, c139]
  ·skip
   have c131N := c131
   try simp at c131N
   first | have c131M : (_ = _) = True := eq_true c131N | have c131M := c131N
   rw [if_neg c131] at hr
   refine ee_seq_condF (by simp [bV, c127, c131, c131M]) ?_
   refine ee_seq_skip ?_
   unfold Llaw36_ReplaceAccepts_k1 at hr
   refine ee_assoc ?_
   obtain ⟨_, u152, hr⟩ := bs hr
   obtain ⟨u152_0, u152_1⟩ := chk_some u152
   have sf153 : ((if (y129.1.length : Int) < 1 then (y129.1.length : Int) else 1)).toNat ≤ y129.1.length := by omega
   have sf154 : 0 ≤ (if (y129.1.length : Int) < 1 then (y129.1.length : Int) else 1) := by omega
   refine ee_seq_reg rfl (by simp [u152_0, u152_1, sf153, sf154, List.range, List.range.loop, c127, c131, c131M]; rfl) ?_
   refine ee_seq_block ?_
   refine ee_loop (kq := ⟨[1, 5, 7, 35, 36, 37], [7, 15, 19, 28, 35, 100019, 100028], []⟩) (H := fun (s : Int × Tlightclientmill_Deck) => match s with | (p44, p45) => (⟨(und 1 ++ ([.one (.v (.int .i64 a1))] ++ (und 3 ++ ([.ptr 15 0 0 0 2] ++ (und 1 ++ ([.ptr 7 0 0 0 4] ++ (und 27 ++ ([.one (.ms 35 0 0 (3) 1), .one (.v (.int .i64 (3 : Int))), .one (.v (.int .i64 p44))] ++ (und 23)))))))) : List PV), ([(7, ⟨0, 4, [[.v (.int .u32 y130.1.1), .ms 19 0 0 (y130.1.2.1.length) 35, .ms 100019 0 0 (y130.1.2.2.1.length) 2, .v (.int .u32 y130.1.2.2.2)]], false, false⟩), (15, ⟨0, 2, [[.slice .no (intsR .i64 p45.1), .v (.int .i64 p45.2)]], false, false⟩), (19, ⟨0, 35, List.map eapi_Input y130.1.2.1, false, true⟩), (35, ⟨0, 1, List.map eS_api_Entry [y129.1, ([] : (List Tapi_Entry)), (y129.1).take ((if (y129.1.length : Int) < 1 then (y129.1.length : Int) else 1)).toNat], false, true⟩), (100019, ⟨0, 2, List.map eapi_Output y130.1.2.2.1, false, true⟩)] : Boxes)⟩ : ASt)) (by kernel_rfl) hr (by simp [und, List.replicate, c127, c131, c131M]) ?_
   rintro ⟨p44, p45⟩ x155r hr155
   simp only [Llaw36_ReplaceAccepts_s1] at hr155
   unfold b4_1
   simp only [und, List.replicate, List.cons_append, List.nil_append]
   refine ee_seq_reg rfl (by simp [c127, c131, c131M]; rfl) ?_
   by_cases c156 : p44 < (3 : Int)
   ·skip
    rw [if_pos] at hr155
    rotate_left
    ·simp [c127, c131, c131M, c156]
    refine ee_seq_condT (by simp [bV, c127, c131, c131M, c156]) ?_
    refine ee_seq_skip ?_
    refine ee_seq_block ?_
    obtain ⟨j157, hj157, hr155⟩ := bs hr155
    obtain ⟨j157a, j157b, j157c⟩ := inA_some hj157
    have j157d : j157 ≤ 2 := by omega
    obtain ⟨x158, hx158, hr155⟩ := bs hr155
    have ghx158 := getE_of hx158
    have mhx158 : (List.map eS_api_Entry ([y129.1, ([] : (List Tapi_Entry)), (y129.1).take ((if (y129.1.length : Int) < 1 then (y129.1.length : Int) else 1)).toNat]))[j157]? = some (eS_api_Entry x158) := by rw [List.getElem?_map, hx158]; rfl
    simp only [List.map_cons, List.map_nil, List.map_take, List.map_drop, intsR_tk, intsR_dr, arC_lit, ints_cons, ints_nil, eS_api_Entry] at mhx158
    have mghx158 := getE_of mhx158
    refine ee_seq_reg rfl (by simp [j157a, j157b, j157c, j157d, hx158, ghx158, mhx158, mghx158, c127, c131, c131M, c156]; rfl) ?_
    obtain ⟨y159, hy159, hr155⟩ := bs hr155
    have ehy159 := G17_eq hy159
    simp only [E17, R17, nf, nfs] at ehy159
    refine ee_seq_reg rfl (by simp [hT17, ehy159, List.range, List.range.loop, c127, c131, c131M, c156]; rfl) ?_
    refine ee_block ?_
    refine ee_loop (kq := ⟨[1, 5, 7, 9, 35, 36, 37, 44, 45, 46], [7, 15, 19, 28, 35, 44, 100019, 100028], []⟩) (H := fun (s : Int) => match s with | p71 => (⟨(und 1 ++ ([.one (.v (.int .i64 a1))] ++ (und 3 ++ ([.ptr 15 0 0 0 2] ++ (und 1 ++ ([.ptr 7 0 0 0 4] ++ (und 1 ++ ([.one (.slice .no (List.map eapi_Entry x158))] ++ (und 25 ++ ([.one (.ms 35 0 0 (3) 1), .one (.v (.int .i64 (3 : Int))), .one (.v (.int .i64 p44))] ++ (und 6 ++ ([.one (.ms 44 0 0 (2) 1), .one (.v (.int .i64 (2 : Int))), .one (.v (.int .i64 p71))] ++ (und 14)))))))))))) : List PV), ([(7, ⟨0, 4, [[.v (.int .u32 y130.1.1), .ms 19 0 0 (y130.1.2.1.length) 35, .ms 100019 0 0 (y130.1.2.2.1.length) 2, .v (.int .u32 y130.1.2.2.2)]], false, false⟩), (15, ⟨0, 2, [[.slice .no (intsR .i64 y159.2.1), .v (.int .i64 y159.2.2)]], false, false⟩), (19, ⟨0, 35, List.map eapi_Input y130.1.2.1, false, true⟩), (35, ⟨0, 1, List.map eS_api_Entry [y129.1, ([] : (List Tapi_Entry)), (y129.1).take ((if (y129.1.length : Int) < 1 then (y129.1.length : Int) else 1)).toNat], false, true⟩), (44, ⟨0, 1, intsR .i64 [a1, y159.1], false, true⟩), (100019, ⟨0, 2, List.map eapi_Output y130.1.2.2.1, false, true⟩)] : Boxes)⟩ : ASt)) (by kernel_rfl) hr155 (by simp [und, List.replicate, c127, c131, c131M, c156]) ?_
    rintro p71 x160r hr160
    simp only [Llaw36_ReplaceAccepts_s2] at hr160
    unfold b4_2
    simp only [und, List.replicate, List.cons_append, List.nil_append]
    refine ee_seq_reg rfl (by simp [c127, c131, c131M, c156]; rfl) ?_
    by_cases c161 : p71 < (2 : Int)
    ·skip
     rw [if_pos] at hr160
     rotate_left
     ·simp [c127, c131, c131M, c156, c161]
     refine ee_seq_condT (by simp [bV, c127, c131, c131M, c156, c161]) ?_
     refine ee_seq_skip ?_
     refine ee_seq_block ?_
     obtain ⟨j162, hj162, hr160⟩ := bs hr160
     obtain ⟨j162a, j162b, j162c⟩ := inA_some hj162
     have j162d : j162 ≤ 1 := by omega
     obtain ⟨x163, hx163, hr160⟩ := bs hr160
     have ghx163 := getE_of hx163
     have mhx163 : (intsR .i64 ([a1, y159.1]))[j162]? = some [.v (.int .i64 x163)] := by rw [intsR_get, hx163]; rfl
     simp only [intsR_cons, intsR_nil] at mhx163
     have mghx163 := getE_of mhx163
     refine ee_seq_reg rfl (by simp [j162a, j162b, j162c, j162d, hx163, ghx163, mhx163, mghx163, c127, c131, c131M, c156, c161]; rfl) ?_
     obtain ⟨y164, hy164, hr160⟩ := bs hr160
     have ehy164 := G18_eq hy164
     simp only [E18, R18, nf, nfs] at ehy164
     obtain ⟨y165, hy165, hr160⟩ := bs hr160
     have ehy165 := G19_eq hy165
     simp only [E19, R19, nf, nfs] at ehy165
     refine ee_seq_draw rfl (by simp [hT18, ehy164, hT19, ehy165, c127, c131, c131M, c156, c161]; first | exact ⟨rfl, rfl⟩ | rfl) (by kernel_rfl) ?_
     by_cases c166 : y164 = y165
     ·skip
      rw [if_neg (not_not_intro c166)] at hr160
      refine ee_condF (by simp [bV, c127, c131, c131M, c156, c161, eq_true c166]) ?_
      refine ee_skip ?_
      simp only [pq, reduceCtorEq]
      refine ee_reg rfl (by simp [c127, c131, c131M, c156, c161, eq_true c166]; rfl) ?_
      obtain rfl := Option.some.inj hr160
      simp only [pq, reduceCtorEq]
      simp [und, List.replicate, Nat.add_assoc, c127, c131, c131M, c156, c161, eq_true c166]
     ·skip
      rw [if_pos c166] at hr160
      refine ee_condT (by simp [bV, c127, c131, c131M, c156, c161, c166]) ?_
      refine ee_seq_reg rfl (by simp [c127, c131, c131M, c156, c161, c166]; rfl) ?_
      refine ee_ret ?_
      obtain rfl := Option.some.inj hr160
      simp only [pq, reduceCtorEq]
      rintro rfl
      simp only [pq, reduceCtorEq]
      rintro rfl
      simp [FinQ, c127, c131, c131M, c156, c161, c166]
    ·skip
     rw [if_neg] at hr160
     rotate_left
     ·simp [c127, c131, c131M, c156, c161]
     refine ee_seq_condF (by simp [bV, c127, c131, c131M, c156, c161]) ?_
     refine ee_seq_exit ?_
     obtain ⟨r167, q167, rfl⟩ := ms hr160
     simp only [pq, reduceCtorEq]
     rintro rfl
     try simp only [pq, reduceCtorEq]
     unfold Llaw36_ReplaceAccepts_k3 at q167
     refine ee_reg rfl (by simp [c127, c131, c131M, c156, c161]; rfl) ?_
     obtain rfl := Option.some.inj q167
     simp only [pq, reduceCtorEq]
     simp [und, List.replicate, Nat.add_assoc, c127, c131, c131M, c156, c161]
   ·skip
    rw [if_neg] at hr155
    rotate_left
    ·simp [c127, c131, c131M, c156]
    refine ee_seq_condF (by simp [bV, c127, c131, c131M, c156]) ?_
    refine ee_seq_exit ?_
    obtain ⟨r168, q168, rfl⟩ := ms hr155
    simp only [pq, reduceCtorEq]
    rintro rfl
    try simp only [pq, reduceCtorEq]
    unfold Llaw36_ReplaceAccepts_k2 at q168
    refine ee_seq_reg rfl (by simp [c127, c131, c131M, c156]; rfl) ?_
    refine ee_ret ?_
    obtain rfl := Option.some.inj q168
    simp [FinQ, c127, c131, c131M, c156]
 ·skip
  rw [if_pos c127] at hr
  refine ee_seq_condT (by simp [bV, c127]) ?_
  refine ee_assoc ?_
  refine ee_seq_reg rfl (by simp [c127]; rfl) ?_
  refine ee_seq_ret ?_
  obtain rfl := Option.some.inj hr
  simp [FinQ, c127]
end Go.Proofs.YtconfbgcjkjnkaaDoor
