import Derived.Test.YtbjhgolpnjokbaaLfK
import Derived.Test.YtbjhgolpnjokbaaCode
namespace Go.Proofs.Ytbjhgolpnjokbaa
open Go.RowKit
open Go.Av
open Go.Lc
set_option maxRecDepth 100000
set_option linter.unusedSimpArgs false
set_option linter.unusedVariables false
set_option maxHeartbeats 4000000
variable {G : Glob}
def kp8 : Keep := fun i => if i = 1000016 then ⟨[2, 4, 6, 7, 8], [2, 4, 900006], []⟩ else if i = 7 then ⟨[2, 4, 6, 7, 8], [2, 4, 900006], [(6, none, 900006, 13)]⟩ else ⟨[], [], []⟩
theorem w8 {T : Tab} (hO : T.own = fun _ => []) (hT10 : T 10 = some G10) (hT21 : T 21 = some G21) (hT22 : T 22 = some G22) (hT23 : T 23 = some G23) (a0 : Tapi_PartialTx) (a1 : Tapi_PartialTx) (x : Tapi_PartialTx × Int) (hr : Yc a0 a1 = some x) : ∃ kp fl n, ZC tt T G kp fl n Try.f8 (E8 (a0, a1)) = some (R8 (a0, a1) x) := by
 simp only [E8, R8]
 refine fnE (kp := kp8) (w := false) body8 (by simp) ?_
 unfold c8
 rw [Try.ntmps8]
 unfold Yc at hr
 refine Za rfl (by simp [Nat.add_assoc, ]; rfl) ?_
 refine Zd ?_
 obtain ⟨y64, hy64, hr⟩ := bs hr
 have ehy64 := Znt hy64
 simp only [E10, R10, nf, nfs] at ehy64
 by_cases c65 : y64 = true
 ·skip
  rw [if_neg] at hr
  rotate_left
  ·simp [Nat.add_assoc, c65]
  obtain ⟨z66, hz66, hr⟩ := bs hr
  obtain ⟨y67, hy67, hz66⟩ := bs hz66
  have ehy67 := Znt hy67
  simp only [E10, R10, nf, nfs] at ehy67
  obtain rfl := Option.some.inj hz66
  refine Za rfl (by simp [Nat.add_assoc, hO, hT10, ehy64, ehy67, c65]; rfl) ?_
  by_cases c68 : y67 = true
  ·skip
   rw [if_neg] at hr
   rotate_left
   ·simp [Nat.add_assoc, c65, c68]
   refine Zf (by simp [Nat.add_assoc, bV, c65, c68]) ?_
   refine Zg ?_
   refine Zd ?_
   obtain ⟨y69, hy69, hr⟩ := bs hr
   have ehy69 := Zs1 hy69
   simp only [E21, R21, nf, nfs] at ehy69
   refine Za rfl (by simp [Nat.add_assoc, hO, hT21, ehy69, c65, c68]; rfl) ?_
   by_cases c70 : y69 = true
   ·skip
    rw [if_neg (not_not_intro c70)] at hr
    refine Zf (by simp [Nat.add_assoc, bV, c65, c68, c70]) ?_
    refine Zg ?_
    refine Za rfl (by simp [Nat.add_assoc, c65, c68, c70]; rfl) ?_
    refine ZR rfl (by simp [Nat.add_assoc, c65, c68, c70]; first | exact ⟨rfl, rfl⟩ | rfl) (by kernel_rfl) ?_
    refine Zj ?_
    refine ZqG hr (.exit 0) (fun (s : (List Tapi_Signed) × (List Tapi_Signed) × (List Tapi_Signed)) => match s with | (p40, p38, p39) => (⟨(und 2 ++ ([.ptr 2 0 0 0 8] ++ (und 1 ++ ([.ptr 4 0 0 0 8] ++ (und 1 ++ ([.one (.ms 900006 0 0 (p40.length) 13), .one (.slice .no (List.map ZX p38)), .one (.slice .no (List.map ZX p39))] ++ (und 89)))))) : List PV), ([(2, ⟨0, 8, [[.v (.int .u32 a0.1.1.1), .slice .no (List.map Zo a0.1.1.2.1), .slice .no (List.map Zm a0.1.1.2.2.1), .v (.int .u32 a0.1.1.2.2.2), .slice .no (List.map ZL a0.1.2.1), .v (.int .i64 a0.1.2.2.1), .v (.int .i64 a0.1.2.2.2), .slice .no (List.map ZX a0.2)]], false, false⟩), (4, ⟨0, 8, [[.v (.int .u32 0), .slice .nil [], .slice .nil [], .v (.int .u32 0), .slice .nil [], .v (.int .i64 0), .v (.int .i64 0), .slice .nil []]], false, false⟩), (900006, ⟨0, 13, List.map ZX p40, false, true⟩)] : Boxes)⟩ : ASt)) (fun (s : (List Tapi_Signed) × (List Tapi_Signed) × (List Tapi_Signed)) => match s with | (p40, p38, p39) => X5 p40 p38 p39 a0) ?_ ?_
    ·skip
     rintro ⟨p40, p38, p39⟩ hk94
     change X5 p40 p38 p39 a0 = _ at hk94
     simp only [pq, reduceCtorEq]
     simp only [und, List.replicate, List.cons_append, List.nil_append]
     unfold X5 at hk94
     obtain ⟨_, u95, hk94⟩ := bs hk94
     have u95_0 := ZG u95
     have n1_u95_0 : (p40.length + p38.length) * 104 ≤ 140737488355328 := by omega
     have n2_u95_0 : p40.length + p38.length ≤ 9223372036854775807 := by omega
     obtain ⟨_, u96, hk94⟩ := bs hk94
     have u96_0 := ZG u96
     have n1_u96_0 : (p40.length + (p38.length + p39.length)) * 104 ≤ 140737488355328 := by
      have h := u96_0
      try simp at h
      omega
     have n2_u96_0 : p40.length + (p38.length + p39.length) ≤ 9223372036854775807 := by
      have h := u96_0
      try simp at h
      omega
     refine Zhl rfl (kq := ⟨[2, 4, 6, 7, 8], [2, 4, 900006], []⟩) rfl (by simp [Nat.add_assoc, Zbq, n1_u95_0, n2_u95_0, n1_u96_0, n2_u96_0, c65, c68, c70]; rfl) (by simp [Nat.add_assoc, n1_u95_0, n2_u95_0, n1_u96_0, n2_u96_0, c65, c68, c70]; rfl) ?_
     obtain ⟨y97, hy97, hk94⟩ := bs hk94
     have ehy97 := Zs8 hy97
     simp only [E23, R23, nf, nfs] at ehy97
     refine Za rfl (by simp [Nat.add_assoc, hO, hT23, ehy97, c65, c68, c70]; rfl) ?_
     refine Zh ?_
     obtain rfl := Option.some.inj hk94
     simp [Nat.add_assoc, Zi, hO, hT23, ehy97, c65, c68, c70]
    ·skip
     intro J94
     simp only [pq, reduceCtorEq] at J94
     refine Z2 (kq := ⟨[2, 4, 6, 7, 8], [2, 4, 900006], [(6, none, 900006, 13)]⟩) (H := fun (s : (List Tapi_Signed) × (List Tapi_Signed) × (List Tapi_Signed)) => match s with | (p38, p39, p40) => (⟨(und 2 ++ ([.ptr 2 0 0 0 8] ++ (und 1 ++ ([.ptr 4 0 0 0 8] ++ (und 1 ++ ([.one (.ms 900006 0 0 (p40.length) 13), .one (.slice .no (List.map ZX p38)), .one (.slice .no (List.map ZX p39))] ++ (und 89)))))) : List PV), ([(2, ⟨0, 8, [[.v (.int .u32 a0.1.1.1), .slice .no (List.map Zo a0.1.1.2.1), .slice .no (List.map Zm a0.1.1.2.2.1), .v (.int .u32 a0.1.1.2.2.2), .slice .no (List.map ZL a0.1.2.1), .v (.int .i64 a0.1.2.2.1), .v (.int .i64 a0.1.2.2.2), .slice .no (List.map ZX a0.2)]], false, false⟩), (4, ⟨0, 8, [[.v (.int .u32 0), .slice .nil [], .slice .nil [], .v (.int .u32 0), .slice .nil [], .v (.int .i64 0), .v (.int .i64 0), .slice .nil []]], false, false⟩), (900006, ⟨0, 13, List.map ZX p40, false, true⟩)] : Boxes)⟩ : ASt)) (by kernel_rfl) hr (by simp [Nat.add_assoc, und, List.replicate, c65, c68, c70]) ?_
     rintro ⟨p38, p39, p40⟩ x98r hr98
     simp only [YS] at hr98
     unfold b8_1
     simp only [und, List.replicate, List.cons_append, List.nil_append]
     refine Zd ?_
     by_cases c99 : 0 < (p38.length : Int)
     ·skip
      have c99N := c99
      try simp at c99N
      first | have c99M : (_ = _) = True := eq_true c99N | have c99M := c99N
      refine Za rfl (by simp [Nat.add_assoc, c65, c68, c70, c99, c99M]; rfl) ?_
      by_cases c100 : 0 < (p39.length : Int)
      ·skip
       have c100N := c100
       try simp at c100N
       first | have c100M : (_ = _) = True := eq_true c100N | have c100M := c100N
       rw [if_pos] at hr98
       rotate_left
       ·simp [Nat.add_assoc, c65, c68, c70, c99, c99M, c100, c100M]
       refine Ze (by simp [Nat.add_assoc, bV, c65, c68, c70, c99, c99M, c100, c100M]) ?_
       refine Zg ?_
       refine Zc1 ?_
       obtain ⟨x101, hx101, hr98⟩ := bs hr98
       have hx101c := Zz hx101
       obtain ⟨x102, hx102, hr98⟩ := bs hr98
       have hx102c := Zz hx102
       obtain ⟨y103, hy103, hr98⟩ := bs hr98
       have ehy103 := Zp3 hy103
       simp only [E22, R22, nf, nfs] at ehy103
       refine ZR rfl (by simp [Nat.add_assoc, hx101, hx101c, hx102, hx102c, hO, hT22, ehy103, c65, c68, c70, c99, c99M, c100, c100M]; first | exact ⟨rfl, rfl⟩ | rfl) (by kernel_rfl) ?_
       refine Zc1 ?_
       refine Za rfl (by simp [Nat.add_assoc, c65, c68, c70, c99, c99M, c100, c100M]; rfl) ?_
       by_cases c104 : y103 < 0
       ·skip
        rw [if_pos c104] at hr98
        refine Zy (by simp [Nat.add_assoc, bV, c65, c68, c70, c99, c99M, c100, c100M, c104]) ?_
        have hx101c := Zz hx101
        obtain ⟨_, u105, hr98⟩ := bs hr98
        have u105_0 := ZG u105
        have n1_u105_0 : (p40.length + 1) * 104 ≤ 140737488355328 := by omega
        have n2_u105_0 : p40.length + 1 ≤ 9223372036854775807 := by omega
        obtain ⟨_, u106, hr98⟩ := bs hr98
        have u106_0 := ZG u106
        have sf107 : 1 ≤ p38.length := by omega
        refine Zer rfl (by simp [Nat.add_assoc, hx101, hx101c, n1_u105_0, n2_u105_0, u106_0, sf107, c65, c68, c70, c99, c99M, c100, c100M, c104]; first | exact ⟨rfl, rfl⟩ | rfl) (by kernel_rfl) ?_
        obtain rfl := Option.some.inj hr98
        simp only [pq, reduceCtorEq]
        simp [Nat.add_assoc, und, List.replicate, Nat.add_assoc, hx101, hx101c, n1_u105_0, n2_u105_0, u106_0, sf107, c65, c68, c70, c99, c99M, c100, c100M, c104]
       ·skip
        rw [if_neg c104] at hr98
        refine ZI (by simp [Nat.add_assoc, bV, c65, c68, c70, c99, c99M, c100, c100M, c104]) ?_
        refine Za rfl (by simp [Nat.add_assoc, c65, c68, c70, c99, c99M, c100, c100M, c104]; rfl) ?_
        by_cases c108 : 0 < y103
        ·skip
         rw [if_pos c108] at hr98
         refine Zy (by simp [Nat.add_assoc, bV, c65, c68, c70, c99, c99M, c100, c100M, c104, c108]) ?_
         have hx102c := Zz hx102
         obtain ⟨_, u109, hr98⟩ := bs hr98
         have u109_0 := ZG u109
         have n1_u109_0 : (p40.length + 1) * 104 ≤ 140737488355328 := by omega
         have n2_u109_0 : p40.length + 1 ≤ 9223372036854775807 := by omega
         obtain ⟨_, u110, hr98⟩ := bs hr98
         have u110_0 := ZG u110
         have sf111 : 1 ≤ p39.length := by omega
         refine Zer rfl (by simp [Nat.add_assoc, hx102, hx102c, n1_u109_0, n2_u109_0, u110_0, sf111, c65, c68, c70, c99, c99M, c100, c100M, c104, c108]; first | exact ⟨rfl, rfl⟩ | rfl) (by kernel_rfl) ?_
         obtain rfl := Option.some.inj hr98
         simp only [pq, reduceCtorEq]
         simp [Nat.add_assoc, und, List.replicate, Nat.add_assoc, hx102, hx102c, n1_u109_0, n2_u109_0, u110_0, sf111, c65, c68, c70, c99, c99M, c100, c100M, c104, c108]
        ·skip
         rw [if_neg c108] at hr98
         refine ZI (by simp [Nat.add_assoc, bV, c65, c68, c70, c99, c99M, c100, c100M, c104, c108]) ?_
         have hx101c := Zz hx101
         have hx102c := Zz hx102
         refine ZR rfl (by simp [Nat.add_assoc, hx101, hx101c, hx102, hx102c, c65, c68, c70, c99, c99M, c100, c100M, c104, c108]; first | exact ⟨rfl, rfl⟩ | rfl) (by kernel_rfl) ?_
         by_cases c112 : x101.2.2.1 = x102.2.2.1
         ·skip
          by_cases c113 : x101.2.2.2 = x102.2.2.2
          ·skip
           rw [if_neg] at hr98
           rotate_left
           ·simp [Nat.add_assoc, c65, c68, c70, c99, c99M, c100, c100M, c104, c108, eq_true c112, eq_true c113]
           refine ZI (by simp [Nat.add_assoc, bV, c65, c68, c70, c99, c99M, c100, c100M, c104, c108, eq_true c112, eq_true c113]) ?_
           have hx101c := Zz hx101
           obtain ⟨_, u114, hr98⟩ := bs hr98
           have u114_0 := ZG u114
           have n1_u114_0 : (p40.length + 1) * 104 ≤ 140737488355328 := by omega
           have n2_u114_0 : p40.length + 1 ≤ 9223372036854775807 := by omega
           obtain ⟨_, u115, hr98⟩ := bs hr98
           have u115_0 := ZG u115
           have sf116 : 1 ≤ p38.length := by omega
           obtain ⟨_, u117, hr98⟩ := bs hr98
           have u117_0 := ZG u117
           have sf118 : 1 ≤ p39.length := by omega
           refine Zer rfl (by simp [Nat.add_assoc, hx101, hx101c, n1_u114_0, n2_u114_0, u115_0, sf116, u117_0, sf118, c65, c68, c70, c99, c99M, c100, c100M, c104, c108, eq_true c112, eq_true c113]; first | exact ⟨rfl, rfl⟩ | rfl) (by kernel_rfl) ?_
           obtain rfl := Option.some.inj hr98
           simp only [pq, reduceCtorEq]
           simp [Nat.add_assoc, und, List.replicate, Nat.add_assoc, hx101, hx101c, n1_u114_0, n2_u114_0, u115_0, sf116, u117_0, sf118, c65, c68, c70, c99, c99M, c100, c100M, c104, c108, eq_true c112, eq_true c113]
          ·skip
           rw [if_pos] at hr98
           rotate_left
           ·simp [Nat.add_assoc, c65, c68, c70, c99, c99M, c100, c100M, c104, c108, eq_true c112, c113]
           refine Zy (by simp [Nat.add_assoc, bV, c65, c68, c70, c99, c99M, c100, c100M, c104, c108, eq_true c112, c113]) ?_
           refine Za rfl (by simp [Nat.add_assoc, c65, c68, c70, c99, c99M, c100, c100M, c104, c108, eq_true c112, c113]; rfl) ?_
           refine Zh ?_
           obtain rfl := Option.some.inj hr98
           simp only [pq, reduceCtorEq]
           rintro rfl
           simp [Nat.add_assoc, Zi, c65, c68, c70, c99, c99M, c100, c100M, c104, c108, eq_true c112, c113, c99N, c100N]
         ·skip
          rw [if_pos] at hr98
          rotate_left
          ·simp [Nat.add_assoc, c65, c68, c70, c99, c99M, c100, c100M, c104, c108, c112]
          refine Zy (by simp [Nat.add_assoc, bV, c65, c68, c70, c99, c99M, c100, c100M, c104, c108, c112]) ?_
          refine Za rfl (by simp [Nat.add_assoc, c65, c68, c70, c99, c99M, c100, c100M, c104, c108, c112]; rfl) ?_
          refine Zh ?_
          obtain rfl := Option.some.inj hr98
          simp only [pq, reduceCtorEq]
          rintro rfl
          simp [Nat.add_assoc, Zi, c65, c68, c70, c99, c99M, c100, c100M, c104, c108, c112, c99N, c100N]
      ·skip
       have c100N := c100
       try simp at c100N
       first | have c100M : (_ = _) = True := eq_true c100N | have c100M := c100N
       have c100L : ¬ 0 < p39.length := by omega
       rw [if_neg] at hr98
       rotate_left
       ·simp [Nat.add_assoc, c65, c68, c70, c99, c99M, c100, c100M, c100L]
       refine Zf (by simp [Nat.add_assoc, bV, c65, c68, c70, c99, c99M, c100, c100M, c100L]) ?_
       refine ZD ?_
       obtain ⟨r119, q119, rfl⟩ := ms hr98
       simp only [pq, reduceCtorEq]
       rintro rfl
       try simp only [pq, reduceCtorEq]
       exact Zdn (key := 1000016) (kq := ⟨[2, 4, 6, 7, 8], [2, 4, 900006], []⟩) rfl rfl rfl (by simp [Nat.add_assoc, und, List.replicate, c65, c68, c70, c99, c99M, c100, c100M, c100L]) (J94 (p40, p38, p39) q119)
     ·skip
      have c99N := c99
      try simp at c99N
      first | have c99M : (_ = _) = True := eq_true c99N | have c99M := c99N
      have c99L : ¬ 0 < p38.length := by omega
      refine Za rfl (by simp [Nat.add_assoc, c65, c68, c70, c99, c99M, c99L]; rfl) ?_
      rw [if_neg] at hr98
      rotate_left
      ·simp [Nat.add_assoc, c65, c68, c70, c99, c99M, c99L]
      refine Zf (by simp [Nat.add_assoc, bV, c65, c68, c70, c99, c99M, c99L]) ?_
      refine ZD ?_
      obtain ⟨r120, q120, rfl⟩ := ms hr98
      simp only [pq, reduceCtorEq]
      rintro rfl
      try simp only [pq, reduceCtorEq]
      exact Zdn (key := 1000016) (kq := ⟨[2, 4, 6, 7, 8], [2, 4, 900006], []⟩) rfl rfl rfl (by simp [Nat.add_assoc, und, List.replicate, c65, c68, c70, c99, c99M, c99L]) (J94 (p40, p38, p39) q120)
   ·skip
    rw [if_pos c70] at hr
    refine Ze (by simp [Nat.add_assoc, bV, c65, c68, c70]) ?_
    refine Zd ?_
    refine Za rfl (by simp [Nat.add_assoc, c65, c68, c70]; rfl) ?_
    refine Zl ?_
    obtain rfl := Option.some.inj hr
    simp [Nat.add_assoc, Zi, c65, c68, c70]
  ·skip
   rw [if_pos] at hr
   rotate_left
   ·simp [Nat.add_assoc, c65, c68]
   refine Ze (by simp [Nat.add_assoc, bV, c65, c68]) ?_
   refine Zd ?_
   refine Za rfl (by simp [Nat.add_assoc, c65, c68]; rfl) ?_
   refine Zl ?_
   obtain rfl := Option.some.inj hr
   simp [Nat.add_assoc, Zi, c65, c68]
 ·skip
  rw [if_pos] at hr
  rotate_left
  ·simp [Nat.add_assoc, c65]
  obtain ⟨z121, hz121, hr⟩ := bs hr
  obtain rfl := Option.some.inj hz121
  refine Za rfl (by simp [Nat.add_assoc, hO, hT10, ehy64, c65]; rfl) ?_
  rw [if_pos] at hr
  rotate_left
  ·simp [Nat.add_assoc, c65]
  refine Ze (by simp [Nat.add_assoc, bV, c65]) ?_
  refine Zd ?_
  refine Za rfl (by simp [Nat.add_assoc, c65]; rfl) ?_
  refine Zl ?_
  obtain rfl := Option.some.inj hr
  simp [Nat.add_assoc, Zi, c65]
def kp70 : Keep := fun i => ⟨[], [], []⟩
theorem w70 {T : Tab} (a0 : (List Int)) (a1 : (List Int)) (x : Bool) (hr : ZaV a0 a1 = some x) : ∃ kp fl n, ZC tt T G kp fl n Try.f70 (E70 (a0, a1)) = some (R70 (a0, a1) x) := by
 simp only [E70, R70]
 refine fnE (kp := kp70) (w := false) body70 (by simp) ?_
 unfold c70
 rw [Try.ntmps70]
 unfold ZaV at hr
 refine Za rfl (by simp []; rfl) ?_
 refine Za rfl (by simp []; rfl) ?_
 refine Zh ?_
 obtain rfl := Option.some.inj hr
 simp [Zi, ]
def kp71 : Keep := fun i => ⟨[], [], []⟩
theorem w71 {T : Tab} (hO : T.own = fun _ => []) (hT70 : T 70 = some G70) (a0 : Tapi_Output) (a1 : Tapi_Output) (x : Bool) (hr : Xo a0 a1 = some x) : ∃ kp fl n, ZC tt T G kp fl n Try.f71 (E71 (a0, a1)) = some (R71 (a0, a1) x) := by
 simp only [E71, R71]
 refine fnE (kp := kp71) (w := false) body71 (by simp) ?_
 unfold c71
 rw [Try.ntmps71]
 unfold Xo at hr
 refine Za rfl (by simp []; rfl) ?_
 by_cases c3 : a0.1 = a1.1
 ·skip
  rw [if_pos] at hr
  rotate_left
  ·simp [eq_true c3]
  obtain ⟨z4, hz4, hr⟩ := bs hr
  obtain ⟨y5, hy5, hz4⟩ := bs hz4
  have ehy5 := Zqc hy5
  simp only [E70, R70, nf, nfs] at ehy5
  obtain rfl := Option.some.inj hz4
  refine Za rfl (by simp [hO, hT70, ehy5, eq_true c3]; rfl) ?_
  refine Zh ?_
  obtain rfl := Option.some.inj hr
  simp [Zi, hO, hT70, ehy5, eq_true c3]
 ·skip
  rw [if_neg] at hr
  rotate_left
  ·simp [c3]
  obtain ⟨z6, hz6, hr⟩ := bs hr
  obtain rfl := Option.some.inj hz6
  refine Za rfl (by simp [c3]; rfl) ?_
  refine Zh ?_
  obtain rfl := Option.some.inj hr
  simp [Zi, c3]
def kp52 : Keep := fun i => if i = 4 then ⟨[2, 3, 42, 43], [2, 3], []⟩ else if i = 10 then ⟨[2, 3, 6, 7, 42, 43, 79, 80], [2, 3, 6, 7], []⟩ else if i = 17 then ⟨[2, 3, 99, 100], [2, 3], []⟩ else ⟨[], [], []⟩
theorem w52 {T : Tab} (hO : T.own = fun _ => []) (hT70 : T 70 = some G70) (hT71 : T 71 = some G71) (a0 : Tapi_Tx) (a1 : Tapi_Tx) (x : Bool) (hr : Zaa a0 a1 = some x) : ∃ kp fl n, ZC tt T G kp fl n Try.f52 (E52 (a0, a1)) = some (R52 (a0, a1) x) := by
 simp only [E52, R52]
 refine fnE (kp := kp52) (w := false) body52 (by simp) ?_
 unfold c52
 rw [Try.ntmps52]
 unfold Zaa at hr
 refine Za rfl (by simp []; rfl) ?_
 refine Zd ?_
 by_cases c72 : a0.1 = a1.1
 ·skip
  by_cases c73 : a0.2.2.2 = a1.2.2.2
  ·skip
   by_cases c74 : (a0.2.1.length : Int) = (a1.2.1.length : Int)
   ·skip
    have c74N := c74
    try simp at c74N
    refine Za rfl (by simp [eq_true c72, eq_true c73, eq_true c74, eq_true c74N]; rfl) ?_
    by_cases c75 : (a0.2.2.1.length : Int) = (a1.2.2.1.length : Int)
    ·skip
     have c75N := c75
     try simp at c75N
     rw [if_neg] at hr
     rotate_left
     ·simp [eq_true c72, eq_true c73, eq_true c74, eq_true c74N, eq_true c75, eq_true c75N]
     refine Zf (by simp [bV, eq_true c72, eq_true c73, eq_true c74, eq_true c74N, eq_true c75, eq_true c75N]) ?_
     refine Zg ?_
     refine Zd ?_
     refine Za rfl (by simp [eq_true c72, eq_true c73, eq_true c74, eq_true c74N, eq_true c75, eq_true c75N]; rfl) ?_
     refine Zj ?_
     refine Z2 (kq := ⟨[2, 3, 42, 43], [2, 3], []⟩) (H := fun (s : Int) => match s with | p28 => (⟨(und 2 ++ ([.ptr 2 0 0 0 4, .ptr 3 0 0 0 4] ++ (und 38 ++ ([.one (.v (.int .i64 (a0.2.1.length : Int))), .one (.v (.int .i64 p28))] ++ (und 72)))) : List PV), ([(2, ⟨0, 4, [[.v (.int .u32 a0.1), .slice .no (List.map Zo a0.2.1), .slice .no (List.map Zm a0.2.2.1), .v (.int .u32 a0.2.2.2)]], false, false⟩), (3, ⟨0, 4, [[.v (.int .u32 a1.1), .slice .no (List.map Zo a1.2.1), .slice .no (List.map Zm a1.2.2.1), .v (.int .u32 a1.2.2.2)]], false, false⟩)] : Boxes)⟩ : ASt)) (by kernel_rfl) hr (by simp [und, List.replicate, eq_true c72, eq_true c73, eq_true c74, eq_true c74N, eq_true c75, eq_true c75N]) ?_
     rintro p28 x99r hr99
     simp only [Zcp] at hr99
     unfold b52_1
     simp only [und, List.replicate, List.cons_append, List.nil_append]
     refine Za rfl (by simp [eq_true c72, eq_true c73, eq_true c74, eq_true c74N, eq_true c75, eq_true c75N]; rfl) ?_
     by_cases c100 : p28 < (a0.2.1.length : Int)
     ·skip
      have c100N := c100
      try simp at c100N
      first | have c100M : (_ = _) = True := eq_true c100N | have c100M := c100N
      rw [if_pos] at hr99
      rotate_left
      ·simp [eq_true c72, eq_true c73, eq_true c74, eq_true c74N, eq_true c75, eq_true c75N, c100, c100M]
      refine Ze (by simp [bV, eq_true c72, eq_true c73, eq_true c74, eq_true c74N, eq_true c75, eq_true c75N, c100, c100M]) ?_
      refine Zg ?_
      refine Zj ?_
      refine Za rfl (by simp [eq_true c72, eq_true c73, eq_true c74, eq_true c74N, eq_true c75, eq_true c75N, c100, c100M]; rfl) ?_
      obtain ⟨x101, hx101, hr99⟩ := bs hr99
      obtain ⟨hx101a, hx101b⟩ := ZJ hx101
      have hx101c := Zz hx101b
      obtain ⟨x102, hx102, hr99⟩ := bs hr99
      obtain ⟨hx102a, hx102b⟩ := ZJ hx102
      have hx102c := Zz hx102b
      refine ZR rfl (by simp [hx101a, hx101b, hx101c, hx102a, hx102b, hx102c, eq_true c72, eq_true c73, eq_true c74, eq_true c74N, eq_true c75, eq_true c75N, c100, c100M]; first | exact ⟨rfl, rfl⟩ | rfl) (by kernel_rfl) ?_
      refine Zd ?_
      by_cases c103 : x101.1.1 = x102.1.1
      ·skip
       by_cases c104 : x101.1.2 = x102.1.2
       ·skip
        by_cases c105 : x101.2.1 = x102.2.1
        ·skip
         refine Za rfl (by simp [eq_true c72, eq_true c73, eq_true c74, eq_true c74N, eq_true c75, eq_true c75N, c100, c100M, eq_true c103, eq_true c104, eq_true c105]; rfl) ?_
         by_cases c106 : (x101.2.2.length : Int) = (x102.2.2.length : Int)
         ·skip
          have c106N := c106
          try simp at c106N
          rw [if_neg] at hr99
          rotate_left
          ·simp [eq_true c72, eq_true c73, eq_true c74, eq_true c74N, eq_true c75, eq_true c75N, c100, c100M, eq_true c103, eq_true c104, eq_true c105, eq_true c106, eq_true c106N]
          refine Zf (by simp [bV, eq_true c72, eq_true c73, eq_true c74, eq_true c74N, eq_true c75, eq_true c75N, c100, c100M, eq_true c103, eq_true c104, eq_true c105, eq_true c106, eq_true c106N]) ?_
          refine Zg ?_
          refine Za rfl (by simp [eq_true c72, eq_true c73, eq_true c74, eq_true c74N, eq_true c75, eq_true c75N, c100, c100M, eq_true c103, eq_true c104, eq_true c105, eq_true c106, eq_true c106N]; rfl) ?_
          refine Zc1 ?_
          refine Z2 (kq := ⟨[2, 3, 6, 7, 42, 43, 79, 80], [2, 3, 6, 7], []⟩) (H := fun (s : Int) => match s with | p65 => (⟨(und 2 ++ ([.ptr 2 0 0 0 4, .ptr 3 0 0 0 4] ++ (und 2 ++ ([.ptr 6 0 0 0 35, .ptr 7 0 0 0 35] ++ (und 34 ++ ([.one (.v (.int .i64 (a0.2.1.length : Int))), .one (.v (.int .i64 p28))] ++ (und 35 ++ ([.one (.v (.int .i64 (x101.2.2.length : Int))), .one (.v (.int .i64 p65))] ++ (und 35)))))))) : List PV), ([(2, ⟨0, 4, [[.v (.int .u32 a0.1), .slice .no (List.map Zo a0.2.1), .slice .no (List.map Zm a0.2.2.1), .v (.int .u32 a0.2.2.2)]], false, false⟩), (3, ⟨0, 4, [[.v (.int .u32 a1.1), .slice .no (List.map Zo a1.2.1), .slice .no (List.map Zm a1.2.2.1), .v (.int .u32 a1.2.2.2)]], false, false⟩), (6, ⟨0, 35, [(arC .u8 x101.1.1) ++ ((.v (.int .u32 x101.1.2)) :: ((.v (.int .u32 x101.2.1)) :: ((.slice .no (List.map Yf x101.2.2)) :: [])))], false, false⟩), (7, ⟨0, 35, [(arC .u8 x102.1.1) ++ ((.v (.int .u32 x102.1.2)) :: ((.v (.int .u32 x102.2.1)) :: ((.slice .no (List.map Yf x102.2.2)) :: [])))], false, false⟩)] : Boxes)⟩ : ASt)) (by kernel_rfl) hr99 (by simp [und, List.replicate, eq_true c72, eq_true c73, eq_true c74, eq_true c74N, eq_true c75, eq_true c75N, c100, c100M, eq_true c103, eq_true c104, eq_true c105, eq_true c106, eq_true c106N]) ?_
          rintro p65 x114r hr114
          simp only [Zd3] at hr114
          unfold b52_2
          simp only [und, List.replicate, List.cons_append, List.nil_append]
          refine Za rfl (by simp [eq_true c72, eq_true c73, eq_true c74, eq_true c74N, eq_true c75, eq_true c75N, c100, c100M, eq_true c103, eq_true c104, eq_true c105, eq_true c106, eq_true c106N]; rfl) ?_
          by_cases c115 : p65 < (x101.2.2.length : Int)
          ·skip
           have c115N := c115
           try simp at c115N
           first | have c115M : (_ = _) = True := eq_true c115N | have c115M := c115N
           rw [if_pos] at hr114
           rotate_left
           ·simp [eq_true c72, eq_true c73, eq_true c74, eq_true c74N, eq_true c75, eq_true c75N, c100, c100M, eq_true c103, eq_true c104, eq_true c105, eq_true c106, eq_true c106N, c115, c115M]
           refine Ze (by simp [bV, eq_true c72, eq_true c73, eq_true c74, eq_true c74N, eq_true c75, eq_true c75N, c100, c100M, eq_true c103, eq_true c104, eq_true c105, eq_true c106, eq_true c106N, c115, c115M]) ?_
           refine Zg ?_
           refine Zj ?_
           refine Za rfl (by simp [eq_true c72, eq_true c73, eq_true c74, eq_true c74N, eq_true c75, eq_true c75N, c100, c100M, eq_true c103, eq_true c104, eq_true c105, eq_true c106, eq_true c106N, c115, c115M]; rfl) ?_
           obtain ⟨x116, hx116, hr114⟩ := bs hr114
           obtain ⟨hx116a, hx116b⟩ := ZJ hx116
           have hx116c := Zz hx116b
           obtain ⟨x117, hx117, hr114⟩ := bs hr114
           obtain ⟨hx117a, hx117b⟩ := ZJ hx117
           have hx117c := Zz hx117b
           obtain ⟨y118, hy118, hr114⟩ := bs hr114
           have ehy118 := Zqc hy118
           simp only [E70, R70, nf, nfs] at ehy118
           refine ZR rfl (by simp [hx116a, hx116b, hx116c, hx117a, hx117b, hx117c, hO, hT70, ehy118, eq_true c72, eq_true c73, eq_true c74, eq_true c74N, eq_true c75, eq_true c75N, c100, c100M, eq_true c103, eq_true c104, eq_true c105, eq_true c106, eq_true c106N, c115, c115M]; first | exact ⟨rfl, rfl⟩ | rfl) (by kernel_rfl) ?_
           by_cases c119 : y118 = true
           ·skip
            rw [if_neg (not_not_intro c119)] at hr114
            refine ZI (by simp [bV, eq_true c72, eq_true c73, eq_true c74, eq_true c74N, eq_true c75, eq_true c75N, c100, c100M, eq_true c103, eq_true c104, eq_true c105, eq_true c106, eq_true c106N, c115, c115M, c119]) ?_
            refine Yb ?_
            simp only [pq, reduceCtorEq]
            refine ZM rfl (by simp [eq_true c72, eq_true c73, eq_true c74, eq_true c74N, eq_true c75, eq_true c75N, c100, c100M, eq_true c103, eq_true c104, eq_true c105, eq_true c106, eq_true c106N, c115, c115M, c119]; rfl) ?_
            obtain rfl := Option.some.inj hr114
            simp only [pq, reduceCtorEq]
            simp [und, List.replicate, Nat.add_assoc, eq_true c72, eq_true c73, eq_true c74, eq_true c74N, eq_true c75, eq_true c75N, c100, c100M, eq_true c103, eq_true c104, eq_true c105, eq_true c106, eq_true c106N, c115, c115M, c119]
           ·skip
            rw [if_pos c119] at hr114
            refine Zy (by simp [bV, eq_true c72, eq_true c73, eq_true c74, eq_true c74N, eq_true c75, eq_true c75N, c100, c100M, eq_true c103, eq_true c104, eq_true c105, eq_true c106, eq_true c106N, c115, c115M, c119]) ?_
            refine Za rfl (by simp [eq_true c72, eq_true c73, eq_true c74, eq_true c74N, eq_true c75, eq_true c75N, c100, c100M, eq_true c103, eq_true c104, eq_true c105, eq_true c106, eq_true c106N, c115, c115M, c119]; rfl) ?_
            refine Zh ?_
            obtain rfl := Option.some.inj hr114
            simp only [pq, reduceCtorEq]
            rintro rfl
            simp only [pq, reduceCtorEq]
            rintro rfl
            simp [Zi, eq_true c72, eq_true c73, eq_true c74, eq_true c74N, eq_true c75, eq_true c75N, c100, c100M, eq_true c103, eq_true c104, eq_true c105, eq_true c106, eq_true c106N, c115, c115M, c119, c100N, c115N]
          ·skip
           have c115N := c115
           try simp at c115N
           first | have c115M : (_ = _) = True := eq_true c115N | have c115M := c115N
           rw [if_neg] at hr114
           rotate_left
           ·simp [eq_true c72, eq_true c73, eq_true c74, eq_true c74N, eq_true c75, eq_true c75N, c100, c100M, eq_true c103, eq_true c104, eq_true c105, eq_true c106, eq_true c106N, c115, c115M]
           refine Zf (by simp [bV, eq_true c72, eq_true c73, eq_true c74, eq_true c74N, eq_true c75, eq_true c75N, c100, c100M, eq_true c103, eq_true c104, eq_true c105, eq_true c106, eq_true c106N, c115, c115M]) ?_
           refine ZD ?_
           obtain ⟨r120, q120, rfl⟩ := ms hr114
           simp only [pq, reduceCtorEq]
           rintro rfl
           try simp only [pq, reduceCtorEq]
           unfold ZgR at q120
           refine ZM rfl (by simp [eq_true c72, eq_true c73, eq_true c74, eq_true c74N, eq_true c75, eq_true c75N, c100, c100M, eq_true c103, eq_true c104, eq_true c105, eq_true c106, eq_true c106N, c115, c115M]; rfl) ?_
           obtain rfl := Option.some.inj q120
           simp only [pq, reduceCtorEq]
           simp [und, List.replicate, Nat.add_assoc, eq_true c72, eq_true c73, eq_true c74, eq_true c74N, eq_true c75, eq_true c75N, c100, c100M, eq_true c103, eq_true c104, eq_true c105, eq_true c106, eq_true c106N, c115, c115M]
         ·skip
          have c106N := c106
          try simp at c106N
          first | have c106M : (_ = _) = True := eq_true c106N | have c106M := c106N
          rw [if_pos] at hr99
          rotate_left
          ·simp [eq_true c72, eq_true c73, eq_true c74, eq_true c74N, eq_true c75, eq_true c75N, c100, c100M, eq_true c103, eq_true c104, eq_true c105, c106, c106M]
          refine Ze (by simp [bV, eq_true c72, eq_true c73, eq_true c74, eq_true c74N, eq_true c75, eq_true c75N, c100, c100M, eq_true c103, eq_true c104, eq_true c105, c106, c106M]) ?_
          refine Zd ?_
          refine Za rfl (by simp [eq_true c72, eq_true c73, eq_true c74, eq_true c74N, eq_true c75, eq_true c75N, c100, c100M, eq_true c103, eq_true c104, eq_true c105, c106, c106M]; rfl) ?_
          refine Zl ?_
          obtain rfl := Option.some.inj hr99
          simp only [pq, reduceCtorEq]
          rintro rfl
          simp [Zi, eq_true c72, eq_true c73, eq_true c74, eq_true c74N, eq_true c75, eq_true c75N, c100, c100M, eq_true c103, eq_true c104, eq_true c105, c106, c106M, c100N, c106N]
        ·skip
         refine Za rfl (by simp [eq_true c72, eq_true c73, eq_true c74, eq_true c74N, eq_true c75, eq_true c75N, c100, c100M, eq_true c103, eq_true c104, c105]; rfl) ?_
         rw [if_pos] at hr99
         rotate_left
         ·simp [eq_true c72, eq_true c73, eq_true c74, eq_true c74N, eq_true c75, eq_true c75N, c100, c100M, eq_true c103, eq_true c104, c105]
         refine Ze (by simp [bV, eq_true c72, eq_true c73, eq_true c74, eq_true c74N, eq_true c75, eq_true c75N, c100, c100M, eq_true c103, eq_true c104, c105]) ?_
         refine Zd ?_
         refine Za rfl (by simp [eq_true c72, eq_true c73, eq_true c74, eq_true c74N, eq_true c75, eq_true c75N, c100, c100M, eq_true c103, eq_true c104, c105]; rfl) ?_
         refine Zl ?_
         obtain rfl := Option.some.inj hr99
         simp only [pq, reduceCtorEq]
         rintro rfl
         simp [Zi, eq_true c72, eq_true c73, eq_true c74, eq_true c74N, eq_true c75, eq_true c75N, c100, c100M, eq_true c103, eq_true c104, c105, c100N]
       ·skip
        refine Za rfl (by simp [eq_true c72, eq_true c73, eq_true c74, eq_true c74N, eq_true c75, eq_true c75N, c100, c100M, eq_true c103, c104]; rfl) ?_
        rw [if_pos] at hr99
        rotate_left
        ·simp [eq_true c72, eq_true c73, eq_true c74, eq_true c74N, eq_true c75, eq_true c75N, c100, c100M, eq_true c103, c104]
        refine Ze (by simp [bV, eq_true c72, eq_true c73, eq_true c74, eq_true c74N, eq_true c75, eq_true c75N, c100, c100M, eq_true c103, c104]) ?_
        refine Zd ?_
        refine Za rfl (by simp [eq_true c72, eq_true c73, eq_true c74, eq_true c74N, eq_true c75, eq_true c75N, c100, c100M, eq_true c103, c104]; rfl) ?_
        refine Zl ?_
        obtain rfl := Option.some.inj hr99
        simp only [pq, reduceCtorEq]
        rintro rfl
        simp [Zi, eq_true c72, eq_true c73, eq_true c74, eq_true c74N, eq_true c75, eq_true c75N, c100, c100M, eq_true c103, c104, c100N]
      ·skip
       refine Za rfl (by simp [eq_true c72, eq_true c73, eq_true c74, eq_true c74N, eq_true c75, eq_true c75N, c100, c100M, c103]; rfl) ?_
       rw [if_pos] at hr99
       rotate_left
       ·simp [eq_true c72, eq_true c73, eq_true c74, eq_true c74N, eq_true c75, eq_true c75N, c100, c100M, c103]
       refine Ze (by simp [bV, eq_true c72, eq_true c73, eq_true c74, eq_true c74N, eq_true c75, eq_true c75N, c100, c100M, c103]) ?_
       refine Zd ?_
       refine Za rfl (by simp [eq_true c72, eq_true c73, eq_true c74, eq_true c74N, eq_true c75, eq_true c75N, c100, c100M, c103]; rfl) ?_
       refine Zl ?_
       obtain rfl := Option.some.inj hr99
       simp only [pq, reduceCtorEq]
       rintro rfl
       simp [Zi, eq_true c72, eq_true c73, eq_true c74, eq_true c74N, eq_true c75, eq_true c75N, c100, c100M, c103, c100N]
     ·skip
      have c100N := c100
      try simp at c100N
      first | have c100M : (_ = _) = True := eq_true c100N | have c100M := c100N
      rw [if_neg] at hr99
      rotate_left
      ·simp [eq_true c72, eq_true c73, eq_true c74, eq_true c74N, eq_true c75, eq_true c75N, c100, c100M]
      refine Zf (by simp [bV, eq_true c72, eq_true c73, eq_true c74, eq_true c74N, eq_true c75, eq_true c75N, c100, c100M]) ?_
      refine ZD ?_
      obtain ⟨r121, q121, rfl⟩ := ms hr99
      simp only [pq, reduceCtorEq]
      rintro rfl
      try simp only [pq, reduceCtorEq]
      unfold Zco at q121
      refine Zd ?_
      refine Za rfl (by simp [eq_true c72, eq_true c73, eq_true c74, eq_true c74N, eq_true c75, eq_true c75N, c100, c100M]; rfl) ?_
      refine Zj ?_
      refine Z2 (kq := ⟨[2, 3, 99, 100], [2, 3], []⟩) (H := fun (s : Int) => match s with | p49 => (⟨(und 2 ++ ([.ptr 2 0 0 0 4, .ptr 3 0 0 0 4] ++ (und 95 ++ ([.one (.v (.int .i64 (a0.2.2.1.length : Int))), .one (.v (.int .i64 p49))] ++ (und 15)))) : List PV), ([(2, ⟨0, 4, [[.v (.int .u32 a0.1), .slice .no (List.map Zo a0.2.1), .slice .no (List.map Zm a0.2.2.1), .v (.int .u32 a0.2.2.2)]], false, false⟩), (3, ⟨0, 4, [[.v (.int .u32 a1.1), .slice .no (List.map Zo a1.2.1), .slice .no (List.map Zm a1.2.2.1), .v (.int .u32 a1.2.2.2)]], false, false⟩)] : Boxes)⟩ : ASt)) (by kernel_rfl) q121 (by simp [und, List.replicate, eq_true c72, eq_true c73, eq_true c74, eq_true c74N, eq_true c75, eq_true c75N, c100, c100M]) ?_
      rintro p49 x129r hr129
      simp only [Zcn] at hr129
      unfold b52_3
      simp only [und, List.replicate, List.cons_append, List.nil_append]
      refine Za rfl (by simp [eq_true c72, eq_true c73, eq_true c74, eq_true c74N, eq_true c75, eq_true c75N, c100, c100M]; rfl) ?_
      by_cases c130 : p49 < (a0.2.2.1.length : Int)
      ·skip
       have c130N := c130
       try simp at c130N
       first | have c130M : (_ = _) = True := eq_true c130N | have c130M := c130N
       rw [if_pos] at hr129
       rotate_left
       ·simp [eq_true c72, eq_true c73, eq_true c74, eq_true c74N, eq_true c75, eq_true c75N, c100, c100M, c130, c130M]
       refine Ze (by simp [bV, eq_true c72, eq_true c73, eq_true c74, eq_true c74N, eq_true c75, eq_true c75N, c100, c100M, c130, c130M]) ?_
       refine Zg ?_
       refine Zj ?_
       refine Za rfl (by simp [eq_true c72, eq_true c73, eq_true c74, eq_true c74N, eq_true c75, eq_true c75N, c100, c100M, c130, c130M]; rfl) ?_
       obtain ⟨x131, hx131, hr129⟩ := bs hr129
       obtain ⟨hx131a, hx131b⟩ := ZJ hx131
       have hx131c := Zz hx131b
       obtain ⟨x132, hx132, hr129⟩ := bs hr129
       obtain ⟨hx132a, hx132b⟩ := ZJ hx132
       have hx132c := Zz hx132b
       obtain ⟨y133, hy133, hr129⟩ := bs hr129
       have ehy133 := Zqd hy133
       simp only [E71, R71, nf, nfs] at ehy133
       refine ZR rfl (by simp [hx131a, hx131b, hx131c, hx132a, hx132b, hx132c, hO, hT71, ehy133, eq_true c72, eq_true c73, eq_true c74, eq_true c74N, eq_true c75, eq_true c75N, c100, c100M, c130, c130M]; first | exact ⟨rfl, rfl⟩ | rfl) (by kernel_rfl) ?_
       by_cases c134 : y133 = true
       ·skip
        rw [if_neg (not_not_intro c134)] at hr129
        refine ZI (by simp [bV, eq_true c72, eq_true c73, eq_true c74, eq_true c74N, eq_true c75, eq_true c75N, c100, c100M, c130, c130M, c134]) ?_
        refine Yb ?_
        simp only [pq, reduceCtorEq]
        refine ZM rfl (by simp [eq_true c72, eq_true c73, eq_true c74, eq_true c74N, eq_true c75, eq_true c75N, c100, c100M, c130, c130M, c134]; rfl) ?_
        obtain rfl := Option.some.inj hr129
        simp only [pq, reduceCtorEq]
        simp [und, List.replicate, Nat.add_assoc, eq_true c72, eq_true c73, eq_true c74, eq_true c74N, eq_true c75, eq_true c75N, c100, c100M, c130, c130M, c134]
       ·skip
        rw [if_pos c134] at hr129
        refine Zy (by simp [bV, eq_true c72, eq_true c73, eq_true c74, eq_true c74N, eq_true c75, eq_true c75N, c100, c100M, c130, c130M, c134]) ?_
        refine Za rfl (by simp [eq_true c72, eq_true c73, eq_true c74, eq_true c74N, eq_true c75, eq_true c75N, c100, c100M, c130, c130M, c134]; rfl) ?_
        refine Zh ?_
        obtain rfl := Option.some.inj hr129
        simp only [pq, reduceCtorEq]
        rintro rfl
        simp [Zi, eq_true c72, eq_true c73, eq_true c74, eq_true c74N, eq_true c75, eq_true c75N, c100, c100M, c130, c130M, c134, c100N, c130N]
      ·skip
       have c130N := c130
       try simp at c130N
       first | have c130M : (_ = _) = True := eq_true c130N | have c130M := c130N
       rw [if_neg] at hr129
       rotate_left
       ·simp [eq_true c72, eq_true c73, eq_true c74, eq_true c74N, eq_true c75, eq_true c75N, c100, c100M, c130, c130M]
       refine Zf (by simp [bV, eq_true c72, eq_true c73, eq_true c74, eq_true c74N, eq_true c75, eq_true c75N, c100, c100M, c130, c130M]) ?_
       refine ZD ?_
       obtain ⟨r135, q135, rfl⟩ := ms hr129
       simp only [pq, reduceCtorEq]
       rintro rfl
       try simp only [pq, reduceCtorEq]
       unfold Lref09_SameTx_k2 at q135
       refine Za rfl (by simp [eq_true c72, eq_true c73, eq_true c74, eq_true c74N, eq_true c75, eq_true c75N, c100, c100M, c130, c130M]; rfl) ?_
       refine Zh ?_
       obtain rfl := Option.some.inj q135
       simp [Zi, eq_true c72, eq_true c73, eq_true c74, eq_true c74N, eq_true c75, eq_true c75N, c100, c100M, c130, c130M, c100N, c130N]
    ·skip
     have c75N := c75
     try simp at c75N
     first | have c75M : (_ = _) = True := eq_true c75N | have c75M := c75N
     rw [if_pos] at hr
     rotate_left
     ·simp [eq_true c72, eq_true c73, eq_true c74, eq_true c74N, c75, c75M]
     refine Ze (by simp [bV, eq_true c72, eq_true c73, eq_true c74, eq_true c74N, c75, c75M]) ?_
     refine Zd ?_
     refine Za rfl (by simp [eq_true c72, eq_true c73, eq_true c74, eq_true c74N, c75, c75M]; rfl) ?_
     refine Zl ?_
     obtain rfl := Option.some.inj hr
     simp [Zi, eq_true c72, eq_true c73, eq_true c74, eq_true c74N, c75, c75M, c75N]
   ·skip
    have c74N := c74
    try simp at c74N
    first | have c74M : (_ = _) = True := eq_true c74N | have c74M := c74N
    refine Za rfl (by simp [eq_true c72, eq_true c73, c74, c74M]; rfl) ?_
    rw [if_pos] at hr
    rotate_left
    ·simp [eq_true c72, eq_true c73, c74, c74M]
    refine Ze (by simp [bV, eq_true c72, eq_true c73, c74, c74M]) ?_
    refine Zd ?_
    refine Za rfl (by simp [eq_true c72, eq_true c73, c74, c74M]; rfl) ?_
    refine Zl ?_
    obtain rfl := Option.some.inj hr
    simp [Zi, eq_true c72, eq_true c73, c74, c74M, c74N]
  ·skip
   refine Za rfl (by simp [eq_true c72, c73]; rfl) ?_
   rw [if_pos] at hr
   rotate_left
   ·simp [eq_true c72, c73]
   refine Ze (by simp [bV, eq_true c72, c73]) ?_
   refine Zd ?_
   refine Za rfl (by simp [eq_true c72, c73]; rfl) ?_
   refine Zl ?_
   obtain rfl := Option.some.inj hr
   simp [Zi, eq_true c72, c73]
 ·skip
  refine Za rfl (by simp [c72]; rfl) ?_
  rw [if_pos] at hr
  rotate_left
  ·simp [c72]
  refine Ze (by simp [bV, c72]) ?_
  refine Zd ?_
  refine Za rfl (by simp [c72]; rfl) ?_
  refine Zl ?_
  obtain rfl := Option.some.inj hr
  simp [Zi, c72]
end Go.Proofs.Ytbjhgolpnjokbaa
