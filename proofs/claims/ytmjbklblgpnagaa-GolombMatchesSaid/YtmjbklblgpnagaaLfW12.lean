import Derived.Test.YtmjbklblgpnagaaLfK
import Derived.Test.YtmjbklblgpnagaaCode
import Derived.Test.YtmjbklblgpnagaaBl
namespace Go.Proofs.Ytmjbklblgpnagaa
open Go.RowKit
open Go.Av
open Go.Lc
set_option maxRecDepth 100000
set_option linter.unusedSimpArgs false
set_option linter.unusedVariables false
set_option maxHeartbeats 4000000
variable {G : Glob}
def kp55 : Keep := fun i => if i = 3 then ⟨[1, 2, 3, 7, 8], [3], []⟩ else if i = 1000004 then ⟨[1, 2, 3, 7, 8], [3], []⟩ else ⟨[], [], []⟩
theorem w55 {T : Tab} (hO : T.own = fun _ => []) (hT54 : T 54 = some G54) (a0 : Tapi_Bits) (a1 : Int) (a2 : Int) (x : Int) (hr : X9 a0 a1 a2 = some x) : ∃ kp fl n, ZI tt T G kp fl n Try.f55 (E55 (a0, a1, a2)) = some (R55 (a0, a1, a2) x) := by
 simp only [E55, R55]
 refine fnE (kp := kp55) (w := false) body55 (by simp) ?_
 unfold c55
 rw [Try.ntmps55]
 unfold X9 at hr
 refine Za rfl (by simp []; rfl) ?_
 refine Za rfl (by simp []; rfl) ?_
 refine Zf ?_
 refine Za rfl (by simp []; rfl) ?_
 refine Zk ?_
 refine ZU (kq := ⟨[1, 2, 3, 7, 8], [3], []⟩) (H := fun (s : Int × Int) => match s with | (p7, p8) => (⟨(und 1 ++ ([.one (.v (.int .i64 a1)), .one (.v (.int .i64 a2)), .ptr 3 0 0 0 2] ++ (und 3 ++ ([.one (.v (.int .u64 p7)), .one (.v (.int .i64 p8))] ++ (und 16)))) : List PV), ([(3, ⟨0, 2, [[.slice .no (Zi .u8 a0.1), .v (.int .i64 a0.2)]], false, false⟩)] : Boxes)⟩ : ASt)) (by kernel_rfl) hr (by simp [und, List.replicate, ]) ?_
 rintro ⟨p7, p8⟩ x20r hr20
 simp only [Zbs] at hr20
 unfold b55_1
 simp only [und, List.replicate, List.cons_append, List.nil_append]
 refine Zf ?_
 refine Za rfl (by simp []; rfl) ?_
 by_cases c21 : p8 < IntKind.i64.wrap (a1 + a2)
 ·skip
  rw [if_pos] at hr20
  rotate_left
  ·simp [c21]
  refine Ze (by simp [bV, c21]) ?_
  refine Zh ?_
  refine Zk ?_
  refine Za rfl (by simp [c21]; rfl) ?_
  obtain ⟨y22, hy22, hr20⟩ := bs hr20
  have ehy22 := ZiS hy22
  simp only [E54, R54, nf, nfs] at ehy22
  refine Za rfl (by simp [hO, hT54, ehy22, c21]; rfl) ?_
  refine ZbR hr20 (.normal) (fun (s : Int) => match s with | p12 => (⟨(und 1 ++ ([.one (.v (.int .i64 a1)), .one (.v (.int .i64 a2)), .ptr 3 0 0 0 2] ++ (und 3 ++ ([.one (.v (.int .u64 p12)), .one (.v (.int .i64 p8))] ++ (und 16)))) : List PV), ([(3, ⟨0, 2, [[.slice .no (Zi .u8 a0.1), .v (.int .i64 a0.2)]], false, false⟩)] : Boxes)⟩ : ASt)) (fun (s : Int) => match s with | p12 => ZaI p8 p12) ?_ ?_
  ·skip
   rintro p12 hk24
   change ZaI p8 p12 = _ at hk24
   simp only [pq, reduceCtorEq]
   simp only [und, List.replicate, List.cons_append, List.nil_append]
   unfold ZaI at hk24
   refine ZbH rfl (kq := ⟨[1, 2, 3, 7, 8], [3], []⟩) rfl (by simp [Ys, c21]; rfl) (by simp [c21]; rfl) ?_
   obtain rfl := Option.some.inj hk24
   simp only [pq, reduceCtorEq]
   simp [und, List.replicate, Nat.add_assoc, c21]
  ·skip
   intro J24
   simp only [pq, reduceCtorEq] at J24
   by_cases c25 : y22 = true
   ·skip
    rw [if_pos c25] at hr20
    refine Yo (by simp [bV, c21, c25]) ?_
    refine ZA rfl (by simp [c21, c25]; rfl) ?_
    simp only [pq, reduceCtorEq]
    exact ZK (key := 1000004) (kq := ⟨[1, 2, 3, 7, 8], [3], []⟩) rfl rfl rfl (by simp [und, List.replicate, c21, c25]) (J24 (IntKind.u64.wrap ((IntKind.u64.wrap (p7 * 2)) + 1)) hr20)
   ·skip
    rw [if_neg c25] at hr20
    refine YI (by simp [bV, c21, c25]) ?_
    refine XA ?_
    simp only [pq, reduceCtorEq]
    exact ZK (key := 1000004) (kq := ⟨[1, 2, 3, 7, 8], [3], []⟩) rfl rfl rfl (by simp [und, List.replicate, c21, c25]) (J24 (IntKind.u64.wrap (p7 * 2)) hr20)
 ·skip
  rw [if_neg] at hr20
  rotate_left
  ·simp [c21]
  refine Zg (by simp [bV, c21]) ?_
  refine Zo ?_
  obtain ⟨r26, q26, rfl⟩ := ms hr20
  simp only [pq, reduceCtorEq]
  rintro rfl
  try simp only [pq, reduceCtorEq]
  unfold Zc0 at q26
  refine Za rfl (by simp [c21]; rfl) ?_
  refine Zx ?_
  obtain rfl := Option.some.inj q26
  simp [Zn, c21]
def kp37 : Keep := fun i => if i = 1000010 then ⟨[1, 2, 3, 9], [3], []⟩ else if i = 6 then ⟨[1, 2, 3, 9], [3], []⟩ else ⟨[], [], []⟩
theorem w37 {T : Tab} (hO : T.own = fun _ => []) (hT44 : T 44 = some G44) (hT54 : T 54 = some G54) (hT55 : T 55 = some G55) (a0 : Tapi_Bits) (a1 : Int) (a2 : Int) (x : Int × Int × Int) (hr : X1 a0 a1 a2 = some x) : ∃ kp fl n, ZI tt T G kp fl n Try.f37 (E37 (a0, a1, a2)) = some (R37 (a0, a1, a2) x) := by
 simp only [E37, R37]
 refine fnE (kp := kp37) (w := false) body37 (by simp) ?_
 unfold c37
 rw [Try.ntmps37]
 unfold X1 at hr
 refine Za rfl (by simp []; rfl) ?_
 refine Zf ?_
 obtain ⟨y14, hy14, hr⟩ := bs hr
 have ehy14 := ZiT hy14
 simp only [E44, R44, nf, nfs] at ehy14
 refine Za rfl (by simp [hO, hT44, ehy14]; rfl) ?_
 by_cases c15 : y14 = true
 ·skip
  rw [if_neg (not_not_intro c15)] at hr
  refine Zg (by simp [bV, c15]) ?_
  refine Zh ?_
  refine Zf ?_
  by_cases c16 : a2 < 0
  ·skip
   refine Za rfl (by simp [c15, c16]; rfl) ?_
   rw [if_pos] at hr
   rotate_left
   ·simp [c15, c16]
   refine Ze (by simp [bV, c15, c16]) ?_
   refine Zf ?_
   refine Za rfl (by simp [c15, c16]; rfl) ?_
   refine Zl ?_
   obtain rfl := Option.some.inj hr
   simp [Zn, c15, c16]
  ·skip
   by_cases c17 : 32 < a2
   ·skip
    refine Za rfl (by simp [c15, c16, c17]; rfl) ?_
    rw [if_pos] at hr
    rotate_left
    ·simp [c15, c16, c17]
    refine Ze (by simp [bV, c15, c16, c17]) ?_
    refine Zf ?_
    refine Za rfl (by simp [c15, c16, c17]; rfl) ?_
    refine Zl ?_
    obtain rfl := Option.some.inj hr
    simp [Zn, c15, c16, c17]
   ·skip
    by_cases c18 : a1 < 0
    ·skip
     refine Za rfl (by simp [c15, c16, c17, c18]; rfl) ?_
     rw [if_pos] at hr
     rotate_left
     ·simp [c15, c16, c17, c18]
     refine Ze (by simp [bV, c15, c16, c17, c18]) ?_
     refine Zf ?_
     refine Za rfl (by simp [c15, c16, c17, c18]; rfl) ?_
     refine Zl ?_
     obtain rfl := Option.some.inj hr
     simp [Zn, c15, c16, c17, c18]
    ·skip
     refine Za rfl (by simp [c15, c16, c17, c18]; rfl) ?_
     by_cases c19 : a0.2 < a1
     ·skip
      rw [if_pos] at hr
      rotate_left
      ·simp [c15, c16, c17, c18, c19]
      refine Ze (by simp [bV, c15, c16, c17, c18, c19]) ?_
      refine Zf ?_
      refine Za rfl (by simp [c15, c16, c17, c18, c19]; rfl) ?_
      refine Zl ?_
      obtain rfl := Option.some.inj hr
      simp [Zn, c15, c16, c17, c18, c19]
     ·skip
      rw [if_neg] at hr
      rotate_left
      ·simp [c15, c16, c17, c18, c19]
      refine Zg (by simp [bV, c15, c16, c17, c18, c19]) ?_
      refine Zh ?_
      refine Za rfl (by simp [c15, c16, c17, c18, c19]; rfl) ?_
      refine Zk ?_
      refine ZbR hr (.exit 0) (fun (s : Int) => match s with | p7 => (⟨(und 1 ++ ([.one (.v (.int .i64 a1)), .one (.v (.int .i64 a2)), .ptr 3 0 0 0 2] ++ (und 5 ++ ([.one (.v (.int .i64 p7))] ++ (und 63)))) : List PV), ([(3, ⟨0, 2, [[.slice .no (Zi .u8 a0.1), .v (.int .i64 a0.2)]], false, false⟩)] : Boxes)⟩ : ASt)) (fun (s : Int) => match s with | p7 => Zak a0 a1 p7 a2) ?_ ?_
      ·skip
       rintro p7 hk29
       change Zak a0 a1 p7 a2 = _ at hk29
       simp only [pq, reduceCtorEq]
       simp only [und, List.replicate, List.cons_append, List.nil_append]
       unfold Zak at hk29
       refine Zf ?_
       refine Y6 rfl (kq := ⟨[1, 2, 3, 9], [3], []⟩) rfl (by simp [Ys, c15, c16, c17, c18, c19]; rfl) (by simp [c15, c16, c17, c18, c19]; rfl) ?_
       by_cases c30 : IntKind.i64.wrap ((IntKind.i64.wrap (a0.2 - a1)) - p7) < IntKind.i64.wrap (1 + a2)
       ·skip
        rw [if_pos c30] at hk29
        refine Ze (by simp [bV, c15, c16, c17, c18, c19, c30]) ?_
        refine Zf ?_
        refine Za rfl (by simp [c15, c16, c17, c18, c19, c30]; rfl) ?_
        refine Zl ?_
        obtain rfl := Option.some.inj hk29
        simp [Zn, c15, c16, c17, c18, c19, c30]
       ·skip
        rw [if_neg c30] at hk29
        refine Zg (by simp [bV, c15, c16, c17, c18, c19, c30]) ?_
        refine Zh ?_
        obtain ⟨_, u31, hk29⟩ := bs hk29
        have u31_0 := Zp u31
        obtain ⟨y32, hy32, hk29⟩ := bs hk29
        have ehy32 := ZlF hy32
        simp only [E55, R55, nf, nfs] at ehy32
        refine Zt rfl (by simp [u31_0, hO, hT55, ehy32, c15, c16, c17, c18, c19, c30]; first | exact ⟨rfl, rfl⟩ | rfl) (by kernel_rfl) ?_
        refine Zx ?_
        obtain rfl := Option.some.inj hk29
        simp [Zn, u31_0, hO, hT55, ehy32, c15, c16, c17, c18, c19, c30]
      ·skip
       intro J29
       simp only [pq, reduceCtorEq] at J29
       refine ZU (kq := ⟨[1, 2, 3, 9], [3], []⟩) (H := fun (s : Int) => match s with | p7 => (⟨(und 1 ++ ([.one (.v (.int .i64 a1)), .one (.v (.int .i64 a2)), .ptr 3 0 0 0 2] ++ (und 5 ++ ([.one (.v (.int .i64 p7))] ++ (und 63)))) : List PV), ([(3, ⟨0, 2, [[.slice .no (Zi .u8 a0.1), .v (.int .i64 a0.2)]], false, false⟩)] : Boxes)⟩ : ASt)) (by kernel_rfl) hr (by simp [und, List.replicate, c15, c16, c17, c18, c19]) ?_
       rintro p7 x33r hr33
       simp only [XP] at hr33
       unfold b37_1
       simp only [und, List.replicate, List.cons_append, List.nil_append]
       refine Zf ?_
       by_cases c34 : IntKind.i64.wrap (a1 + p7) < a0.2
       ·skip
        rw [if_pos] at hr33
        rotate_left
        ·simp [c15, c16, c17, c18, c19, c34]
        obtain ⟨z35, hz35, hr33⟩ := bs hr33
        obtain ⟨y36, hy36, hz35⟩ := bs hz35
        have ehy36 := ZiS hy36
        simp only [E54, R54, nf, nfs] at ehy36
        obtain rfl := Option.some.inj hz35
        refine Za rfl (by simp [hO, hT54, ehy36, c15, c16, c17, c18, c19, c34]; rfl) ?_
        by_cases c37 : y36 = true
        ·skip
         rw [if_pos] at hr33
         rotate_left
         ·simp [c15, c16, c17, c18, c19, c34, c37]
         refine Ze (by simp [bV, c15, c16, c17, c18, c19, c34, c37]) ?_
         refine Zh ?_
         refine YT ?_
         refine Za rfl (by simp [c15, c16, c17, c18, c19, c34, c37]; rfl) ?_
         refine Za rfl (by simp [c15, c16, c17, c18, c19, c34, c37]; rfl) ?_
         by_cases c38 : 65536 < IntKind.i64.wrap (p7 + 1)
         ·skip
          rw [if_pos] at hr33
          rotate_left
          ·simp [c15, c16, c17, c18, c19, c34, c37, c38]
          refine Yo (by simp [bV, c15, c16, c17, c18, c19, c34, c37, c38]) ?_
          refine Za rfl (by simp [c15, c16, c17, c18, c19, c34, c37, c38]; rfl) ?_
          refine Zx ?_
          obtain rfl := Option.some.inj hr33
          simp only [pq, reduceCtorEq]
          rintro rfl
          simp [Zn, c15, c16, c17, c18, c19, c34, c37, c38]
         ·skip
          rw [if_neg] at hr33
          rotate_left
          ·simp [c15, c16, c17, c18, c19, c34, c37, c38]
          refine YI (by simp [bV, c15, c16, c17, c18, c19, c34, c37, c38]) ?_
          refine XA ?_
          obtain rfl := Option.some.inj hr33
          simp only [pq, reduceCtorEq]
          simp [und, List.replicate, Nat.add_assoc, c15, c16, c17, c18, c19, c34, c37, c38]
        ·skip
         rw [if_neg] at hr33
         rotate_left
         ·simp [c15, c16, c17, c18, c19, c34, c37]
         refine Zg (by simp [bV, c15, c16, c17, c18, c19, c34, c37]) ?_
         refine Zo ?_
         obtain ⟨r39, q39, rfl⟩ := ms hr33
         simp only [pq, reduceCtorEq]
         rintro rfl
         try simp only [pq, reduceCtorEq]
         exact ZK (key := 1000010) (kq := ⟨[1, 2, 3, 9], [3], []⟩) rfl rfl rfl (by simp [und, List.replicate, c15, c16, c17, c18, c19, c34, c37]) (J29 p7 q39)
       ·skip
        rw [if_neg] at hr33
        rotate_left
        ·simp [c15, c16, c17, c18, c19, c34]
        obtain ⟨z40, hz40, hr33⟩ := bs hr33
        obtain rfl := Option.some.inj hz40
        refine Za rfl (by simp [c15, c16, c17, c18, c19, c34]; rfl) ?_
        rw [if_neg] at hr33
        rotate_left
        ·simp [c15, c16, c17, c18, c19, c34]
        refine Zg (by simp [bV, c15, c16, c17, c18, c19, c34]) ?_
        refine Zo ?_
        obtain ⟨r41, q41, rfl⟩ := ms hr33
        simp only [pq, reduceCtorEq]
        rintro rfl
        try simp only [pq, reduceCtorEq]
        exact ZK (key := 1000010) (kq := ⟨[1, 2, 3, 9], [3], []⟩) rfl rfl rfl (by simp [und, List.replicate, c15, c16, c17, c18, c19, c34]) (J29 p7 q41)
 ·skip
  rw [if_pos c15] at hr
  refine Ze (by simp [bV, c15]) ?_
  refine Zf ?_
  refine Za rfl (by simp [c15]; rfl) ?_
  refine Zl ?_
  obtain rfl := Option.some.inj hr
  simp [Zn, c15]
def kp38 : Keep := fun i => ⟨[], [], []⟩
theorem w38 {T : Tab} (hO : T.own = fun _ => []) (hT44 : T 44 = some G44) (hT55 : T 55 = some G55) (a0 : Tapi_Bits) (a1 : Int) (a2 : Int) (x : Int × Int × Int) (hr : ZbC a0 a1 a2 = some x) : ∃ kp fl n, ZI tt T G kp fl n Try.f38 (E38 (a0, a1, a2)) = some (R38 (a0, a1, a2) x) := by
 simp only [E38, R38]
 refine fnE (kp := kp38) (w := false) body38 (by simp) ?_
 unfold c38
 rw [Try.ntmps38]
 unfold ZbC at hr
 refine Za rfl (by simp []; rfl) ?_
 refine Zk ?_
 obtain ⟨y3, hy3, hr⟩ := bs hr
 have ehy3 := ZiT hy3
 simp only [E44, R44, nf, nfs] at ehy3
 refine Za rfl (by simp [hO, hT44, ehy3]; rfl) ?_
 by_cases c4 : y3 = true
 ·skip
  rw [if_neg (not_not_intro c4)] at hr
  refine YI (by simp [bV, c4]) ?_
  by_cases c5 : a2 < 0
  ·skip
   refine Za rfl (by simp [c4, c5]; rfl) ?_
   rw [if_pos] at hr
   rotate_left
   ·simp [c4, c5]
   refine Yo (by simp [bV, c4, c5]) ?_
   refine Za rfl (by simp [c4, c5]; rfl) ?_
   refine Zx ?_
   obtain rfl := Option.some.inj hr
   simp [Zn, c4, c5]
  ·skip
   by_cases c6 : 64 < a2
   ·skip
    refine Za rfl (by simp [c4, c5, c6]; rfl) ?_
    rw [if_pos] at hr
    rotate_left
    ·simp [c4, c5, c6]
    refine Yo (by simp [bV, c4, c5, c6]) ?_
    refine Za rfl (by simp [c4, c5, c6]; rfl) ?_
    refine Zx ?_
    obtain rfl := Option.some.inj hr
    simp [Zn, c4, c5, c6]
   ·skip
    by_cases c7 : a1 < 0
    ·skip
     refine Za rfl (by simp [c4, c5, c6, c7]; rfl) ?_
     rw [if_pos] at hr
     rotate_left
     ·simp [c4, c5, c6, c7]
     refine Yo (by simp [bV, c4, c5, c6, c7]) ?_
     refine Za rfl (by simp [c4, c5, c6, c7]; rfl) ?_
     refine Zx ?_
     obtain rfl := Option.some.inj hr
     simp [Zn, c4, c5, c6, c7]
    ·skip
     refine Za rfl (by simp [c4, c5, c6, c7]; rfl) ?_
     by_cases c8 : a0.2 < a1
     ·skip
      rw [if_pos] at hr
      rotate_left
      ·simp [c4, c5, c6, c7, c8]
      refine Yo (by simp [bV, c4, c5, c6, c7, c8]) ?_
      refine Za rfl (by simp [c4, c5, c6, c7, c8]; rfl) ?_
      refine Zx ?_
      obtain rfl := Option.some.inj hr
      simp [Zn, c4, c5, c6, c7, c8]
     ·skip
      rw [if_neg] at hr
      rotate_left
      ·simp [c4, c5, c6, c7, c8]
      refine YI (by simp [bV, c4, c5, c6, c7, c8]) ?_
      refine Za rfl (by simp [c4, c5, c6, c7, c8]; rfl) ?_
      by_cases c9 : IntKind.i64.wrap (a0.2 - a1) < a2
      ·skip
       rw [if_pos c9] at hr
       refine Yo (by simp [bV, c4, c5, c6, c7, c8, c9]) ?_
       refine Za rfl (by simp [c4, c5, c6, c7, c8, c9]; rfl) ?_
       refine Zx ?_
       obtain rfl := Option.some.inj hr
       simp [Zn, c4, c5, c6, c7, c8, c9]
      ·skip
       rw [if_neg c9] at hr
       refine YI (by simp [bV, c4, c5, c6, c7, c8, c9]) ?_
       refine XA ?_
       simp only [pq, reduceCtorEq]
       obtain ⟨y10, hy10, hr⟩ := bs hr
       have ehy10 := ZlF hy10
       simp only [E55, R55, nf, nfs] at ehy10
       refine Za rfl (by simp [hO, hT55, ehy10, c4, c5, c6, c7, c8, c9]; rfl) ?_
       refine Zx ?_
       obtain rfl := Option.some.inj hr
       simp [Zn, hO, hT55, ehy10, c4, c5, c6, c7, c8, c9]
 ·skip
  rw [if_pos c4] at hr
  refine Yo (by simp [bV, c4]) ?_
  refine Za rfl (by simp [c4]; rfl) ?_
  refine Zx ?_
  obtain rfl := Option.some.inj hr
  simp [Zn, c4]
def kp23 : Keep := fun i => if i = 8 then ⟨[1, 2, 6, 7, 8, 9], [2, 6, 71], [(7, none, 71, 1)]⟩ else ⟨[], [], []⟩
theorem w23 {T : Tab} (hO : T.own = fun _ => []) (hT37 : T 37 = some G37) (hT38 : T 38 = some G38) (a0 : Tapi_Filter) (a1 : Int) (x : (List Int) × Int) (hr : ZaA a0 a1 = some x) : ∃ kp fl n, ZI tt T G kp fl n Try.f23 (E23 (a0, a1)) = some (R23 (a0, a1) x) := by
 simp only [E23, R23]
 refine fnE (kp := kp23) (w := false) body23 (by simp) ?_
 unfold c23
 rw [Try.ntmps23]
 unfold ZaA at hr
 refine Za rfl (by simp []; rfl) ?_
 refine Zf ?_
 by_cases c15 : 4096 < a0.1
 ·skip
  refine Za rfl (by simp [c15]; rfl) ?_
  rw [if_pos] at hr
  rotate_left
  ·simp [c15]
  refine Ze (by simp [bV, c15]) ?_
  refine Zf ?_
  refine Za rfl (by simp [c15]; rfl) ?_
  refine Zl ?_
  obtain rfl := Option.some.inj hr
  simp [Zn, c15]
 ·skip
  refine Za rfl (by simp [c15]; rfl) ?_
  by_cases c16 : 200000 < (a0.2.length : Int)
  ·skip
   have c16N := c16
   try simp at c16N
   first | have c16M : (_ = _) = True := eq_true c16N | have c16M := c16N
   rw [if_pos] at hr
   rotate_left
   ·simp [c15, c16, c16M]
   refine Ze (by simp [bV, c15, c16, c16M]) ?_
   refine Zf ?_
   refine Za rfl (by simp [c15, c16, c16M]; rfl) ?_
   refine Zl ?_
   obtain rfl := Option.some.inj hr
   simp [Zn, c15, c16, c16M, c16N]
  ·skip
   have c16N := c16
   try simp at c16N
   first | have c16M : (_ = _) = True := eq_true c16N | have c16M := c16N
   rw [if_neg] at hr
   rotate_left
   ·simp [c15, c16, c16M]
   refine Zg (by simp [bV, c15, c16, c16M]) ?_
   refine Zh ?_
   refine Zf ?_
   by_cases c17 : a0.1 < 0
   ·skip
    refine Za rfl (by simp [c15, c16, c16M, c17]; rfl) ?_
    rw [if_pos] at hr
    rotate_left
    ·simp [c15, c16, c16M, c17]
    refine Ze (by simp [bV, c15, c16, c16M, c17]) ?_
    refine Zf ?_
    refine Za rfl (by simp [c15, c16, c16M, c17]; rfl) ?_
    refine Zl ?_
    obtain rfl := Option.some.inj hr
    simp [Zn, c15, c16, c16M, c17, c16N]
   ·skip
    by_cases c18 : a1 < 0
    ·skip
     refine Za rfl (by simp [c15, c16, c16M, c17, c18]; rfl) ?_
     rw [if_pos] at hr
     rotate_left
     ·simp [c15, c16, c16M, c17, c18]
     refine Ze (by simp [bV, c15, c16, c16M, c17, c18]) ?_
     refine Zf ?_
     refine Za rfl (by simp [c15, c16, c16M, c17, c18]; rfl) ?_
     refine Zl ?_
     obtain rfl := Option.some.inj hr
     simp [Zn, c15, c16, c16M, c17, c18, c16N]
    ·skip
     refine Za rfl (by simp [c15, c16, c16M, c17, c18]; rfl) ?_
     by_cases c19 : 32 < a1
     ·skip
      rw [if_pos] at hr
      rotate_left
      ·simp [c15, c16, c16M, c17, c18, c19]
      refine Ze (by simp [bV, c15, c16, c16M, c17, c18, c19]) ?_
      refine Zf ?_
      refine Za rfl (by simp [c15, c16, c16M, c17, c18, c19]; rfl) ?_
      refine Zl ?_
      obtain rfl := Option.some.inj hr
      simp [Zn, c15, c16, c16M, c17, c18, c19, c16N]
     ·skip
      rw [if_neg] at hr
      rotate_left
      ·simp [c15, c16, c16M, c17, c18, c19]
      refine Zg (by simp [bV, c15, c16, c16M, c17, c18, c19]) ?_
      refine Zh ?_
      refine Za rfl (by simp [c15, c16, c16M, c17, c18, c19]; rfl) ?_
      refine Za rfl (by simp [c15, c16, c16M, c17, c18, c19]; rfl) ?_
      refine Za rfl (by simp [c15, c16, c16M, c17, c18, c19]; rfl) ?_
      refine Zk ?_
      refine ZU (kq := ⟨[1, 2, 6, 7, 8, 9], [2, 6, 71], [(7, none, 71, 1)]⟩) (H := fun (s : Int × Int × (List Int)) => match s with | (p7, p8, p9) => (⟨(und 1 ++ ([.one (.v (.int .i64 a1)), .ptr 2 0 0 0 2] ++ (und 3 ++ ([.ptr 6 0 0 0 2, .one (.ms 71 0 0 (p9.length) 1), .one (.v (.int .i64 p7)), .one (.v (.int .u64 p8))] ++ (und 81)))) : List PV), ([(2, ⟨0, 2, [[.v (.int .i64 a0.1), .slice .no (Zi .u8 a0.2)]], false, false⟩), (6, ⟨0, 2, [[.slice .no (Zi .u8 a0.2), .v (.int .i64 (IntKind.i64.wrap (8 * (a0.2.length : Int))))]], false, false⟩), (71, ⟨0, 1, Zi .u64 p9, false, true⟩)] : Boxes)⟩ : ASt)) (by kernel_rfl) hr (by simp [und, List.replicate, c15, c16, c16M, c17, c18, c19]) ?_
      rintro ⟨p7, p8, p9⟩ x27r hr27
      simp only [ZaJ] at hr27
      unfold b23_1
      simp only [und, List.replicate, List.cons_append, List.nil_append]
      refine Zf ?_
      refine Za rfl (by simp [c15, c16, c16M, c17, c18, c19]; rfl) ?_
      by_cases c28 : (p9.length : Int) < a0.1
      ·skip
       have c28N := c28
       try simp at c28N
       first | have c28M : (_ = _) = True := eq_true c28N | have c28M := c28N
       rw [if_pos] at hr27
       rotate_left
       ·simp [c15, c16, c16M, c17, c18, c19, c28, c28M]
       refine Ze (by simp [bV, c15, c16, c16M, c17, c18, c19, c28, c28M]) ?_
       refine Zh ?_
       refine YT ?_
       obtain ⟨y29, hy29, hr27⟩ := bs hr27
       have ehy29 := Zon hy29
       simp only [E37, R37, nf, nfs] at ehy29
       refine Za rfl (by simp [hO, hT37, ehy29, c15, c16, c16M, c17, c18, c19, c28, c28M]; rfl) ?_
       refine Zf ?_
       refine Za rfl (by simp [c15, c16, c16M, c17, c18, c19, c28, c28M]; rfl) ?_
       by_cases c30 : y29.2.2 = 0
       ·skip
        rw [if_neg (not_not_intro c30)] at hr27
        refine Zg (by simp [bV, c15, c16, c16M, c17, c18, c19, c28, c28M, eq_true c30]) ?_
        refine Zh ?_
        refine Zf ?_
        refine Za rfl (by simp [c15, c16, c16M, c17, c18, c19, c28, c28M, eq_true c30]; rfl) ?_
        by_cases c31 : IntKind.u64.wrap (p8 + y29.1) < p8
        ·skip
         rw [if_pos] at hr27
         rotate_left
         ·simp [c15, c16, c16M, c17, c18, c19, c28, c28M, eq_true c30, c31]
         refine Ze (by simp [bV, c15, c16, c16M, c17, c18, c19, c28, c28M, eq_true c30, c31]) ?_
         refine Zf ?_
         refine Za rfl (by simp [c15, c16, c16M, c17, c18, c19, c28, c28M, eq_true c30, c31]; rfl) ?_
         refine Zl ?_
         obtain rfl := Option.some.inj hr27
         simp only [pq, reduceCtorEq]
         rintro rfl
         simp [Zn, c15, c16, c16M, c17, c18, c19, c28, c28M, eq_true c30, c31, c16N, c28N]
        ·skip
         rw [if_neg] at hr27
         rotate_left
         ·simp [c15, c16, c16M, c17, c18, c19, c28, c28M, eq_true c30, c31]
         refine Zg (by simp [bV, c15, c16, c16M, c17, c18, c19, c28, c28M, eq_true c30, c31]) ?_
         refine Zh ?_
         refine Za rfl (by simp [c15, c16, c16M, c17, c18, c19, c28, c28M, eq_true c30, c31]; rfl) ?_
         obtain ⟨_, u32, hr27⟩ := bs hr27
         have u32_0 := Zp u32
         have n1_u32_0 : (p9.length + 1) * 8 ≤ 140737488355328 := by omega
         have n2_u32_0 : p9.length + 1 ≤ 9223372036854775807 := by omega
         refine ZA rfl (by simp [n1_u32_0, n2_u32_0, c15, c16, c16M, c17, c18, c19, c28, c28M, eq_true c30, c31]; rfl) ?_
         obtain rfl := Option.some.inj hr27
         simp only [pq, reduceCtorEq]
         simp [und, List.replicate, Nat.add_assoc, n1_u32_0, n2_u32_0, c15, c16, c16M, c17, c18, c19, c28, c28M, eq_true c30, c31]
       ·skip
        rw [if_pos c30] at hr27
        refine Ze (by simp [bV, c15, c16, c16M, c17, c18, c19, c28, c28M, c30]) ?_
        refine Zf ?_
        refine Za rfl (by simp [c15, c16, c16M, c17, c18, c19, c28, c28M, c30]; rfl) ?_
        refine Zl ?_
        obtain rfl := Option.some.inj hr27
        simp only [pq, reduceCtorEq]
        rintro rfl
        simp [Zn, c15, c16, c16M, c17, c18, c19, c28, c28M, c30, c16N, c28N]
      ·skip
       have c28N := c28
       try simp at c28N
       first | have c28M : (_ = _) = True := eq_true c28N | have c28M := c28N
       rw [if_neg] at hr27
       rotate_left
       ·simp [c15, c16, c16M, c17, c18, c19, c28, c28M]
       refine Zg (by simp [bV, c15, c16, c16M, c17, c18, c19, c28, c28M]) ?_
       refine Zo ?_
       obtain ⟨r33, q33, rfl⟩ := ms hr27
       simp only [pq, reduceCtorEq]
       rintro rfl
       try simp only [pq, reduceCtorEq]
       unfold Zc1 at q33
       refine Zf ?_
       refine Za rfl (by simp [c15, c16, c16M, c17, c18, c19, c28, c28M]; rfl) ?_
       by_cases c34 : 8 ≤ IntKind.i64.wrap ((IntKind.i64.wrap (8 * (a0.2.length : Int))) - p7)
       ·skip
        have c34N := c34
        try simp at c34N
        first | have c34M : (_ = _) = True := eq_true c34N | have c34M := c34N
        rw [if_pos c34] at q33
        refine Ze (by simp [bV, c15, c16, c16M, c17, c18, c19, c28, c28M, c34, c34M]) ?_
        refine Zf ?_
        refine Za rfl (by simp [c15, c16, c16M, c17, c18, c19, c28, c28M, c34, c34M]; rfl) ?_
        refine Zl ?_
        obtain rfl := Option.some.inj q33
        simp [Zn, c15, c16, c16M, c17, c18, c19, c28, c28M, c34, c34M, c16N, c28N, c34N]
       ·skip
        have c34N := c34
        try simp at c34N
        first | have c34M : (_ = _) = True := eq_true c34N | have c34M := c34N
        rw [if_neg c34] at q33
        refine Zg (by simp [bV, c15, c16, c16M, c17, c18, c19, c28, c28M, c34, c34M]) ?_
        refine Zh ?_
        refine Zf ?_
        obtain ⟨y35, hy35, q33⟩ := bs q33
        have ehy35 := Zoo hy35
        simp only [E38, R38, nf, nfs] at ehy35
        refine Za rfl (by simp [hO, hT38, ehy35, c15, c16, c16M, c17, c18, c19, c28, c28M, c34, c34M]; rfl) ?_
        refine Zf ?_
        refine Za rfl (by simp [c15, c16, c16M, c17, c18, c19, c28, c28M, c34, c34M]; rfl) ?_
        by_cases c36 : y35.1 = 0
        ·skip
         rw [if_neg (not_not_intro c36)] at q33
         refine Zg (by simp [bV, c15, c16, c16M, c17, c18, c19, c28, c28M, c34, c34M, eq_true c36]) ?_
         refine Zh ?_
         refine Za rfl (by simp [c15, c16, c16M, c17, c18, c19, c28, c28M, c34, c34M, eq_true c36]; rfl) ?_
         refine Zx ?_
         obtain rfl := Option.some.inj q33
         simp [Zn, c15, c16, c16M, c17, c18, c19, c28, c28M, c34, c34M, eq_true c36, c16N, c28N, c34N]
        ·skip
         rw [if_pos c36] at q33
         refine Ze (by simp [bV, c15, c16, c16M, c17, c18, c19, c28, c28M, c34, c34M, c36]) ?_
         refine Zf ?_
         refine Za rfl (by simp [c15, c16, c16M, c17, c18, c19, c28, c28M, c34, c34M, c36]; rfl) ?_
         refine Zl ?_
         obtain rfl := Option.some.inj q33
         simp [Zn, c15, c16, c16M, c17, c18, c19, c28, c28M, c34, c34M, c36, c16N, c28N, c34N]
def kp25 : Keep := fun i => if i = 8 then ⟨[12, 40, 41, 42], [], []⟩ else if i = 11 then ⟨[12, 16, 40, 41, 42, 46, 47, 48], [], []⟩ else ⟨[], [], []⟩
theorem w25 {T : Tab} (hO : T.own = fun _ => []) (hT20 : T 20 = some G20) (hT23 : T 23 = some G23) (a0 : (Arr 2)) (a1 : Tapi_Filter) (a2 : (List (List Int))) (a3 : Int) (a4 : Int) (x : Bool × Int) (hr : Zat a0 a1 a2 a3 a4 = some x) : ∃ kp fl n, ZI tt T G kp fl n Try.f25 (E25 (a0, a1, a2, a3, a4)) = some (R25 (a0, a1, a2, a3, a4) x) := by
 simp only [E25, R25]
 refine fnE (kp := kp25) (w := false) body25 (by simp) ?_
 unfold c25
 rw [Try.ntmps25]
 unfold Zat at hr
 refine Za rfl (by simp []; rfl) ?_
 obtain ⟨y30, hy30, hr⟩ := bs hr
 have ehy30 := Zop hy30
 simp only [E23, R23, nf, nfs] at ehy30
 refine Za rfl (by simp [hO, hT23, ehy30]; rfl) ?_
 refine Zf ?_
 refine Za rfl (by simp []; rfl) ?_
 by_cases c31 : y30.2 = 0
 ·skip
  rw [if_neg (not_not_intro c31)] at hr
  refine Zg (by simp [bV, eq_true c31]) ?_
  refine Zh ?_
  obtain ⟨y32, hy32, hr⟩ := bs hr
  have ehy32 := Zom hy32
  simp only [E20, R20, nf, nfs] at ehy32
  refine Za rfl (by simp [hO, hT20, ehy32, eq_true c31]; rfl) ?_
  refine Zf ?_
  refine Za rfl (by simp [eq_true c31]; rfl) ?_
  by_cases c33 : y32.2 = 0
  ·skip
   rw [if_neg (not_not_intro c33)] at hr
   refine Zg (by simp [bV, eq_true c31, eq_true c33]) ?_
   refine Zh ?_
   refine Zf ?_
   refine Za rfl (by simp [eq_true c31, eq_true c33]; rfl) ?_
   refine Zk ?_
   refine ZU (kq := ⟨[12, 40, 41, 42], [], []⟩) (H := fun (s : Int) => match s with | p16 => (⟨(und 12 ++ ([.one (.slice .no (Zi .u64 y30.1))] ++ (und 27 ++ ([.one (.slice .no (Zi .u64 y32.1)), .one (.v (.int .i64 (y32.1.length : Int))), .one (.v (.int .i64 p16))] ++ (und 14)))) : List PV), ([] : Boxes)⟩ : ASt)) (by kernel_rfl) hr (by simp [und, List.replicate, eq_true c31, eq_true c33]) ?_
   rintro p16 x48r hr48
   simp only [ZaZ] at hr48
   unfold b25_1
   simp only [und, List.replicate, List.cons_append, List.nil_append]
   refine Za rfl (by simp [eq_true c31, eq_true c33]; rfl) ?_
   by_cases c49 : p16 < (y32.1.length : Int)
   ·skip
    have c49N := c49
    try simp at c49N
    first | have c49M : (_ = _) = True := eq_true c49N | have c49M := c49N
    rw [if_pos] at hr48
    rotate_left
    ·simp [eq_true c31, eq_true c33, c49, c49M]
    refine Ze (by simp [bV, eq_true c31, eq_true c33, c49, c49M]) ?_
    refine Zh ?_
    refine Zk ?_
    obtain ⟨x50, hx50, hr48⟩ := bs hr48
    obtain ⟨hx50a, hx50b⟩ := Y8 hx50
    have hx50c := Zq hx50b
    refine Za rfl (by simp [hx50a, hx50b, hx50c, eq_true c31, eq_true c33, c49, c49M]; rfl) ?_
    refine Za rfl (by simp [eq_true c31, eq_true c33, c49, c49M]; rfl) ?_
    refine YT ?_
    refine ZU (kq := ⟨[12, 16, 40, 41, 42, 46, 47, 48], [], []⟩) (H := fun (s : Int) => match s with | p27 => (⟨(und 12 ++ ([.one (.slice .no (Zi .u64 y30.1))] ++ (und 3 ++ ([.one (.v (.int .u64 x50))] ++ (und 23 ++ ([.one (.slice .no (Zi .u64 y32.1)), .one (.v (.int .i64 (y32.1.length : Int))), .one (.v (.int .i64 p16))] ++ (und 3 ++ ([.one (.slice .no (Zi .u64 y30.1)), .one (.v (.int .i64 (y30.1.length : Int))), .one (.v (.int .i64 p27))] ++ (und 8)))))))) : List PV), ([] : Boxes)⟩ : ASt)) (by kernel_rfl) hr48 (by simp [und, List.replicate, eq_true c31, eq_true c33, c49, c49M]) ?_
    rintro p27 x56r hr56
    simp only [ZaY] at hr56
    unfold b25_2
    simp only [und, List.replicate, List.cons_append, List.nil_append]
    refine Za rfl (by simp [eq_true c31, eq_true c33, c49, c49M]; rfl) ?_
    by_cases c57 : p27 < (y30.1.length : Int)
    ·skip
     have c57N := c57
     try simp at c57N
     first | have c57M : (_ = _) = True := eq_true c57N | have c57M := c57N
     rw [if_pos] at hr56
     rotate_left
     ·simp [eq_true c31, eq_true c33, c49, c49M, c57, c57M]
     refine Ze (by simp [bV, eq_true c31, eq_true c33, c49, c49M, c57, c57M]) ?_
     refine Zh ?_
     refine Zk ?_
     obtain ⟨x58, hx58, hr56⟩ := bs hr56
     obtain ⟨hx58a, hx58b⟩ := Y8 hx58
     have hx58c := Zq hx58b
     refine Za rfl (by simp [hx58a, hx58b, hx58c, eq_true c31, eq_true c33, c49, c49M, c57, c57M]; rfl) ?_
     refine Za rfl (by simp [eq_true c31, eq_true c33, c49, c49M, c57, c57M]; rfl) ?_
     by_cases c59 : x50 = x58
     ·skip
      rw [if_pos c59] at hr56
      refine Yo (by simp [bV, eq_true c31, eq_true c33, c49, c49M, c57, c57M, eq_true c59]) ?_
      refine Za rfl (by simp [eq_true c31, eq_true c33, c49, c49M, c57, c57M, eq_true c59]; rfl) ?_
      refine Zx ?_
      obtain rfl := Option.some.inj hr56
      simp only [pq, reduceCtorEq]
      rintro rfl
      simp only [pq, reduceCtorEq]
      rintro rfl
      simp [Zn, eq_true c31, eq_true c33, c49, c49M, c57, c57M, eq_true c59, c49N, c57N]
     ·skip
      rw [if_neg c59] at hr56
      refine YI (by simp [bV, eq_true c31, eq_true c33, c49, c49M, c57, c57M, c59]) ?_
      refine XA ?_
      simp only [pq, reduceCtorEq]
      refine ZA rfl (by simp [eq_true c31, eq_true c33, c49, c49M, c57, c57M, c59]; rfl) ?_
      obtain rfl := Option.some.inj hr56
      simp only [pq, reduceCtorEq]
      simp [und, List.replicate, Nat.add_assoc, eq_true c31, eq_true c33, c49, c49M, c57, c57M, c59]
    ·skip
     have c57N := c57
     try simp at c57N
     first | have c57M : (_ = _) = True := eq_true c57N | have c57M := c57N
     rw [if_neg] at hr56
     rotate_left
     ·simp [eq_true c31, eq_true c33, c49, c49M, c57, c57M]
     refine Zg (by simp [bV, eq_true c31, eq_true c33, c49, c49M, c57, c57M]) ?_
     refine Zo ?_
     obtain ⟨r60, q60, rfl⟩ := ms hr56
     simp only [pq, reduceCtorEq]
     rintro rfl
     try simp only [pq, reduceCtorEq]
     unfold Zdh at q60
     refine ZA rfl (by simp [eq_true c31, eq_true c33, c49, c49M, c57, c57M]; rfl) ?_
     obtain rfl := Option.some.inj q60
     simp only [pq, reduceCtorEq]
     simp [und, List.replicate, Nat.add_assoc, eq_true c31, eq_true c33, c49, c49M, c57, c57M]
   ·skip
    have c49N := c49
    try simp at c49N
    first | have c49M : (_ = _) = True := eq_true c49N | have c49M := c49N
    rw [if_neg] at hr48
    rotate_left
    ·simp [eq_true c31, eq_true c33, c49, c49M]
    refine Zg (by simp [bV, eq_true c31, eq_true c33, c49, c49M]) ?_
    refine Zo ?_
    obtain ⟨r61, q61, rfl⟩ := ms hr48
    simp only [pq, reduceCtorEq]
    rintro rfl
    try simp only [pq, reduceCtorEq]
    unfold Lref19_Match_k1 at q61
    refine Za rfl (by simp [eq_true c31, eq_true c33, c49, c49M]; rfl) ?_
    refine Zx ?_
    obtain rfl := Option.some.inj q61
    simp [Zn, eq_true c31, eq_true c33, c49, c49M, c49N]
  ·skip
   rw [if_pos c33] at hr
   refine Ze (by simp [bV, eq_true c31, c33]) ?_
   refine Zf ?_
   refine Za rfl (by simp [eq_true c31, c33]; rfl) ?_
   refine Zl ?_
   obtain rfl := Option.some.inj hr
   simp [Zn, eq_true c31, c33]
 ·skip
  rw [if_pos c31] at hr
  refine Ze (by simp [bV, c31]) ?_
  refine Zf ?_
  refine Za rfl (by simp [c31]; rfl) ?_
  refine Zl ?_
  obtain rfl := Option.some.inj hr
  simp [Zn, c31]
end Go.Proofs.Ytmjbklblgpnagaa
