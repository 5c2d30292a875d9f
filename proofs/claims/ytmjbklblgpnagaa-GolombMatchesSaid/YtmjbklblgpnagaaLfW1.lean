import Derived.Test.YtmjbklblgpnagaaLfK
import Derived.Test.YtmjbklblgpnagaaCode
import Derived.Test.YtmjbklblgpnagaaBl
namespace Go.Proofs.Ytmjbklblgpnagaa
open Go.RowKit
open Go.Av
open Go.Lc
set_option maxRecDepth 100000
set_option linter.unusedSimpArgs false
set_option linter.unusedVariables false
set_option maxHeartbeats 4000000
variable {G : Glob}
def kp56 : Keep := fun i => ⟨[], [], []⟩
theorem w56 {T : Tab} (a0 : Int) (x : Bool) (hr : Xk a0 = some x) : ∃ kp fl n, ZI tt T G kp fl n Try.f56 (E56 a0) = some (R56 a0 x) := by
 simp only [E56, R56]
 refine fnE (kp := kp56) (w := false) body56 (by simp) ?_
 unfold c56
 rw [Try.ntmps56]
 unfold Xk at hr
 refine Za rfl (by simp []; rfl) ?_
 refine Za rfl (by simp []; rfl) ?_
 refine Zx ?_
 obtain rfl := Option.some.inj hr
 simp [Zn, ]
def kp39 : Keep := fun i => ⟨[], [], []⟩
theorem w39 {T : Tab} (hO : T.own = fun _ => []) (hT56 : T 56 = some G56) (a0 : Int) (a1 : Int) (x : Bool) (hr : ZN a0 a1 = some x) : ∃ kp fl n, ZI tt T G kp fl n Try.f39 (E39 (a0, a1)) = some (R39 (a0, a1) x) := by
 simp only [E39, R39]
 refine fnE (kp := kp39) (w := false) body39 (by simp) ?_
 unfold c39
 rw [Try.ntmps39]
 unfold ZN at hr
 refine Za rfl (by simp []; rfl) ?_
 obtain ⟨y4, hy4, hr⟩ := bs hr
 have ehy4 := Zlk hy4
 simp only [E56, R56, nf, nfs] at ehy4
 by_cases c5 : y4 = true
 ·skip
  rw [if_pos] at hr
  rotate_left
  ·simp [c5]
  obtain ⟨z6, hz6, hr⟩ := bs hr
  obtain ⟨y7, hy7, hz6⟩ := bs hz6
  have ehy7 := Zlk hy7
  simp only [E56, R56, nf, nfs] at ehy7
  obtain rfl := Option.some.inj hz6
  by_cases c8 : y7 = true
  ·skip
   refine Za rfl (by simp [hO, hT56, ehy4, ehy7, c5, c8]; rfl) ?_
   refine Zx ?_
   obtain rfl := Option.some.inj hr
   simp [Zn, hO, hT56, ehy4, ehy7, c5, c8]
  ·skip
   refine Za rfl (by simp [hO, hT56, ehy4, ehy7, c5, c8]; rfl) ?_
   refine Zx ?_
   obtain rfl := Option.some.inj hr
   simp [Zn, hO, hT56, ehy4, ehy7, c5, c8]
 ·skip
  rw [if_neg] at hr
  rotate_left
  ·simp [c5]
  obtain ⟨z9, hz9, hr⟩ := bs hr
  obtain rfl := Option.some.inj hz9
  refine Za rfl (by simp [hO, hT56, ehy4, c5]; rfl) ?_
  refine Zx ?_
  obtain rfl := Option.some.inj hr
  simp [Zn, hO, hT56, ehy4, c5]
def kp26 : Keep := fun i => if i = 2 then ⟨[0, 3], [], []⟩ else ⟨[], [], []⟩
theorem w26 {T : Tab} (hO : T.own = fun _ => []) (hT39 : T 39 = some G39) (a0 : (List Int)) (x : Bool) (hr : Yt a0 = some x) : ∃ kp fl n, ZI tt T G kp fl n Try.f26 (E26 a0) = some (R26 a0 x) := by
 simp only [E26, R26]
 refine fnE (kp := kp26) (w := false) body26 (by simp) ?_
 unfold c26
 rw [Try.ntmps26]
 unfold Yt at hr
 refine Za rfl (by simp []; rfl) ?_
 refine Zf ?_
 refine Za rfl (by simp []; rfl) ?_
 refine Zk ?_
 refine ZU (kq := ⟨[0, 3], [], []⟩) (H := fun (s : Int) => match s with | p8 => (⟨([.one (.slice .no (Zi .u64 a0))] ++ (und 2 ++ ([.one (.v (.int .i64 p8))] ++ (und 17))) : List PV), ([] : Boxes)⟩ : ASt)) (by kernel_rfl) hr (by simp [und, List.replicate, ]) ?_
 rintro p8 x22r hr22
 simp only [Yx] at hr22
 unfold b26_1
 simp only [und, List.replicate, List.cons_append, List.nil_append]
 refine Zf ?_
 refine Za rfl (by simp []; rfl) ?_
 by_cases c23 : 0 < p8
 ·skip
  rw [if_pos] at hr22
  rotate_left
  ·simp [c23]
  refine Ze (by simp [bV, c23]) ?_
  refine Zh ?_
  refine Zk ?_
  obtain ⟨x24, hx24, hr22⟩ := bs hr22
  obtain ⟨hx24a, hx24b⟩ := Y8 hx24
  have hx24c := Zq hx24b
  obtain ⟨x25, hx25, hr22⟩ := bs hr22
  obtain ⟨hx25a, hx25b⟩ := Y8 hx25
  have hx25c := Zq hx25b
  obtain ⟨y26, hy26, hr22⟩ := bs hr22
  have ehy26 := ZaE hy26
  simp only [E39, R39, nf, nfs] at ehy26
  refine Zt rfl (by simp [hx24a, hx24b, hx24c, hx25a, hx25b, hx25c, hO, hT39, ehy26, c23]; first | exact ⟨rfl, rfl⟩ | rfl) (by kernel_rfl) ?_
  by_cases c27 : y26 = true
  ·skip
   rw [if_pos c27] at hr22
   refine Yo (by simp [bV, c23, c27]) ?_
   refine Za rfl (by simp [c23, c27]; rfl) ?_
   refine Zx ?_
   obtain rfl := Option.some.inj hr22
   simp only [pq, reduceCtorEq]
   rintro rfl
   simp [Zn, c23, c27]
  ·skip
   rw [if_neg c27] at hr22
   refine YI (by simp [bV, c23, c27]) ?_
   refine XA ?_
   simp only [pq, reduceCtorEq]
   refine ZA rfl (by simp [c23, c27]; rfl) ?_
   obtain rfl := Option.some.inj hr22
   simp only [pq, reduceCtorEq]
   simp [und, List.replicate, Nat.add_assoc, c23, c27]
 ·skip
  rw [if_neg] at hr22
  rotate_left
  ·simp [c23]
  refine Zg (by simp [bV, c23]) ?_
  refine Zo ?_
  obtain ⟨r28, q28, rfl⟩ := ms hr22
  simp only [pq, reduceCtorEq]
  rintro rfl
  try simp only [pq, reduceCtorEq]
  unfold Lslices_IsSorted_of__uint64_uint64_k1 at q28
  refine Za rfl (by simp [c23]; rfl) ?_
  refine Zx ?_
  obtain rfl := Option.some.inj q28
  simp [Zn, c23]
def kp40 : Keep := fun i => ⟨[], [], []⟩
theorem w40 {T : Tab} (a0 : Tapi_Bits) (x : Bool) (hr : Zan a0 = some x) : ∃ kp fl n, ZI tt T G kp fl n Try.f40 (E40 a0) = some (R40 a0 x) := by
 simp only [E40, R40]
 refine fnE (kp := kp40) (w := false) body40 (by simp) ?_
 unfold c40
 rw [Try.ntmps40]
 unfold Zan at hr
 refine Za rfl (by simp [-Int.natCast_tdiv_eq_ediv, Nat.add_assoc, ]; rfl) ?_
 refine Zf ?_
 by_cases c4 : a0.2 < 0
 ·skip
  refine Za rfl (by simp [-Int.natCast_tdiv_eq_ediv, Nat.add_assoc, c4]; rfl) ?_
  rw [if_pos] at hr
  rotate_left
  ·simp [-Int.natCast_tdiv_eq_ediv, Nat.add_assoc, c4]
  refine Ze (by simp [-Int.natCast_tdiv_eq_ediv, Nat.add_assoc, bV, c4]) ?_
  refine Zf ?_
  refine Za rfl (by simp [-Int.natCast_tdiv_eq_ediv, Nat.add_assoc, c4]; rfl) ?_
  refine Zl ?_
  obtain rfl := Option.some.inj hr
  simp [-Int.natCast_tdiv_eq_ediv, Nat.add_assoc, Zn, c4]
 ·skip
  by_cases c5 : 1600000 < a0.2
  ·skip
   refine Za rfl (by simp [-Int.natCast_tdiv_eq_ediv, Nat.add_assoc, c4, c5]; rfl) ?_
   rw [if_pos] at hr
   rotate_left
   ·simp [-Int.natCast_tdiv_eq_ediv, Nat.add_assoc, c4, c5]
   refine Ze (by simp [-Int.natCast_tdiv_eq_ediv, Nat.add_assoc, bV, c4, c5]) ?_
   refine Zf ?_
   refine Za rfl (by simp [-Int.natCast_tdiv_eq_ediv, Nat.add_assoc, c4, c5]; rfl) ?_
   refine Zl ?_
   obtain rfl := Option.some.inj hr
   simp [-Int.natCast_tdiv_eq_ediv, Nat.add_assoc, Zn, c4, c5]
  ·skip
   refine Za rfl (by simp [-Int.natCast_tdiv_eq_ediv, Nat.add_assoc, c4, c5]; rfl) ?_
   by_cases c6 : (a0.1.length : Int) = IntKind.i64.wrap ((IntKind.i64.wrap (a0.2 + 7)).tdiv 8)
   ·skip
    have c6N := c6
    try simp at c6N
    rw [if_neg] at hr
    rotate_left
    ·simp [-Int.natCast_tdiv_eq_ediv, Nat.add_assoc, c4, c5, eq_true c6, eq_true c6N]
    refine Zg (by simp [-Int.natCast_tdiv_eq_ediv, Nat.add_assoc, bV, c4, c5, eq_true c6, eq_true c6N]) ?_
    refine Zh ?_
    by_cases c7 : (a0.2).tmod 8 = 0
    ·skip
     rw [if_pos] at hr
     rotate_left
     ·simp [-Int.natCast_tdiv_eq_ediv, Nat.add_assoc, c4, c5, eq_true c6, eq_true c6N, eq_true c7]
     obtain ⟨z8, hz8, hr⟩ := bs hr
     obtain rfl := Option.some.inj hz8
     refine Zt rfl (by simp [-Int.natCast_tdiv_eq_ediv, Nat.add_assoc, c4, c5, eq_true c6, eq_true c6N, eq_true c7]; first | exact ⟨rfl, rfl⟩ | rfl) (by kernel_rfl) ?_
     refine Zx ?_
     obtain rfl := Option.some.inj hr
     simp [-Int.natCast_tdiv_eq_ediv, Nat.add_assoc, Zn, c4, c5, eq_true c6, eq_true c6N, eq_true c7]
    ·skip
     rw [if_neg] at hr
     rotate_left
     ·simp [-Int.natCast_tdiv_eq_ediv, Nat.add_assoc, c4, c5, eq_true c6, eq_true c6N, c7]
     obtain ⟨z9, hz9, hr⟩ := bs hr
     obtain ⟨x10, hx10, hz9⟩ := bs hz9
     obtain ⟨hx10a, hx10b⟩ := Y8 hx10
     have hx10c := Zq hx10b
     obtain ⟨_, u11, hz9⟩ := bs hz9
     have u11_0 := Zp u11
     obtain rfl := Option.some.inj hz9
     refine Zt rfl (by simp [-Int.natCast_tdiv_eq_ediv, Nat.add_assoc, hx10a, hx10b, hx10c, u11_0, c4, c5, eq_true c6, eq_true c6N, c7]; first | exact ⟨rfl, rfl⟩ | rfl) (by kernel_rfl) ?_
     refine Zx ?_
     obtain rfl := Option.some.inj hr
     simp [-Int.natCast_tdiv_eq_ediv, Nat.add_assoc, Zn, hx10a, hx10b, hx10c, u11_0, c4, c5, eq_true c6, eq_true c6N, c7]
   ·skip
    have c6N := c6
    try simp at c6N
    first | have c6M : (_ = _) = True := eq_true c6N | have c6M := c6N
    rw [if_pos] at hr
    rotate_left
    ·simp [-Int.natCast_tdiv_eq_ediv, Nat.add_assoc, c4, c5, c6, c6M]
    refine Ze (by simp [-Int.natCast_tdiv_eq_ediv, Nat.add_assoc, bV, c4, c5, c6, c6M]) ?_
    refine Zf ?_
    refine Za rfl (by simp [-Int.natCast_tdiv_eq_ediv, Nat.add_assoc, c4, c5, c6, c6M]; rfl) ?_
    refine Zl ?_
    obtain rfl := Option.some.inj hr
    simp [-Int.natCast_tdiv_eq_ediv, Nat.add_assoc, Zn, c4, c5, c6, c6M, c6N]
def kp41 : Keep := fun i => ⟨[], [], []⟩
theorem w41 {T : Tab} (a0 : Tapi_Bits) (x : Tapi_Bits) (hr : Zbf a0 = some x) : ∃ kp fl n, ZI tt T G kp fl n Try.f41 (E41 a0) = some (R41 a0 x) := by
 simp only [E41, R41]
 refine fnE (kp := kp41) (w := true) body41 (by simp) ?_
 unfold c41
 rw [Try.ntmps41]
 unfold Zbf at hr
 refine Za rfl (by simp []; rfl) ?_
 obtain ⟨_, u2, hr⟩ := bs hr
 obtain ⟨u2_0, u2_1⟩ := Zp u2
 have mf3 : a0.1.length ≤ 140737488355328 := by omega
 have mf4 : a0.1.length ≤ 9223372036854775807 := by omega
 have mf5 : ((a0.1.length : Int)).toNat ≤ 140737488355328 := by omega
 have mf6 : ((a0.1.length : Int)).toNat ≤ 9223372036854775807 := by omega
 have mf7 : 0 ≤ (a0.1.length : Int) := by omega
 refine Zt rfl (by simp [u2_0, u2_1, mf3, mf4, mf5, mf6, mf7]; first | exact ⟨rfl, rfl⟩ | rfl) (by kernel_rfl) ?_
 refine Zt rfl (by simp []; first | exact ⟨rfl, rfl⟩ | rfl) (by kernel_rfl) ?_
 refine Za rfl (by simp []; rfl) ?_
 refine Zx ?_
 obtain rfl := Option.some.inj hr
 simp [Zn, ]
def kp42_1 : Keep := fun i => if i = 1000002 then ⟨[0, 1], [1000000, 67000000], []⟩ else if i = 1000004 then ⟨[0], [1000000, 67000000], []⟩ else ⟨[], [], []⟩
theorem Zo9 {T : Tab} (a0 : Tapi_Bits) (a1 : Bool) (x : Tapi_Bits) (hr : Xl a0 a1 = some x) : ∃ kp fl n, ZI tt T G kp fl n Try.f42 (Zdj (a0, a1)) = some (Zev (a0, a1) x) := by
 simp only [Zdj, Zev]
 refine fnE (kp := kp42_1) (w := false) body42 (by simp) ?_
 unfold c42
 rw [Try.ntmps42]
 unfold Xl at hr
 refine Zf ?_
 refine Za rfl (by simp []; rfl) ?_
 refine Za2 hr (fun (s : (List Int)) => match s with | p2 => (⟨([.ptr 1000000 0 0 0 2, .one (.v (.bool a1))] ++ (und 52) : List PV), ([(1000000, ⟨0, 2, [[.ms 67000000 0 0 (p2.length) 1, .v (.int .i64 a0.2)]], false, false⟩), (67000000, ⟨0, 1, Zi .u8 p2, false, true⟩)] : Boxes)⟩ : ASt)) (fun (s : (List Int)) => match s with | p2 => Xn a1 a0 p2) ?_ ?_
 ·skip
  rintro p2 hk13
  change Xn a1 a0 p2 = _ at hk13
  simp only [und, List.replicate, List.cons_append, List.nil_append]
  unfold Xn at hk13
  refine Zf ?_
  refine Y6 rfl (kq := ⟨[0, 1], [1000000, 67000000], []⟩) rfl (by simp [Ys, ]; rfl) (by simp []; rfl) ?_
  refine Za2 hk13 (fun (s : (List Int)) => match s with | p6 => (⟨([.ptr 1000000 0 0 0 2] ++ (und 53) : List PV), ([(1000000, ⟨0, 2, [[.ms 67000000 0 0 (p6.length) 1, .v (.int .i64 a0.2)]], false, false⟩), (67000000, ⟨0, 1, Zi .u8 p6, false, true⟩)] : Boxes)⟩ : ASt)) (fun (s : (List Int)) => match s with | p6 => XC a0 p6) ?_ ?_
  ·skip
   rintro p6 hk18
   change XC a0 p6 = _ at hk18
   simp only [und, List.replicate, List.cons_append, List.nil_append]
   unfold XC at hk18
   refine ZbH rfl (kq := ⟨[0], [1000000, 67000000], []⟩) rfl (by simp [Ys, ]; rfl) (by simp []; rfl) ?_
   obtain rfl := Option.some.inj hk18
   simp [Zn, ]
  ·skip
   intro J18
   by_cases c19 : a1 = true
   ·skip
    rw [if_pos c19] at hk13
    refine Ze (by simp [bV, c19]) ?_
    obtain ⟨j20, hj20, hk13⟩ := bs hk13
    obtain ⟨j20a, j20b, j20c⟩ := Zm hj20
    obtain ⟨x21, hx21, hk13⟩ := bs hk13
    have ghx21 := Zq hx21
    obtain ⟨_, u22, hk13⟩ := bs hk13
    have u22_0 := Zp u22
    obtain ⟨j20a, j20b, j20c⟩ := Zm hj20
    refine Zt rfl (by simp [j20a, j20b, j20c, hx21, ghx21, u22_0, c19]; first | exact ⟨rfl, rfl⟩ | rfl) (by kernel_rfl) ?_
    exact ZK (key := 1000004) (kq := ⟨[0], [1000000, 67000000], []⟩) rfl rfl rfl (by simp [und, List.replicate, c19]) (J18 ((p2).set j20 (bits .or .u8 x21 ((128 : Int).fdiv (2 ^ (min ((a0.2).tmod 8).toNat 8))))) hk13)
   ·skip
    rw [if_neg c19] at hk13
    refine Zg (by simp [bV, c19]) ?_
    refine Zh ?_
    exact ZK (key := 1000004) (kq := ⟨[0], [1000000, 67000000], []⟩) rfl rfl rfl (by simp [und, List.replicate, c19]) (J18 p2 hk13)
 ·skip
  intro J13
  by_cases c23 : (a0.2).tmod 8 = 0
  ·skip
   rw [if_pos c23] at hr
   refine Ze (by simp [bV, eq_true c23]) ?_
   obtain ⟨_, u24, hr⟩ := bs hr
   have u24_0 := Zp u24
   have n1_u24_0 : a0.1.length + 1 ≤ 140737488355328 := by omega
   have n2_u24_0 : a0.1.length + 1 ≤ 9223372036854775807 := by omega
   refine Za rfl (by simp [n1_u24_0, n2_u24_0, eq_true c23]; rfl) ?_
   exact ZK (key := 1000002) (kq := ⟨[0, 1], [1000000, 67000000], []⟩) rfl rfl rfl (by simp [und, List.replicate, eq_true c23]) (J13 (a0.1 ++ [0]) hr)
  ·skip
   rw [if_neg c23] at hr
   refine Zg (by simp [bV, c23]) ?_
   refine Zh ?_
   exact ZK (key := 1000002) (kq := ⟨[0, 1], [1000000, 67000000], []⟩) rfl rfl rfl (by simp [und, List.replicate, c23]) (J13 a0.1 hr)
def kp43_2 : Keep := fun i => if i = 1 then ⟨[0, 1, 2, 7, 8], [1000000, 67000000], []⟩ else ⟨[], [], []⟩
theorem Zpa {T : Tab} (hO : T.own = fun d => if d = 20 then [[1]] else []) (hT42 : T 42 = some G42_1) (a0 : Tapi_Bits) (a1 : Int) (a2 : Int) (x : Tapi_Bits) (hr : Xo a0 a1 a2 = some x) : ∃ kp fl n, ZI tt T G kp fl n Try.f43 (Zd5 (a0, a1, a2)) = some (Zf1 (a0, a1, a2) x) := by
 simp only [Zd5, Zf1]
 refine fnE (kp := kp43_2) (w := false) body43 (by simp) ?_
 unfold c43
 rw [Try.ntmps43]
 unfold Xo at hr
 refine Za rfl (by simp []; rfl) ?_
 refine YT ?_
 refine ZU (kq := ⟨[0, 1, 2, 7, 8], [1000000, 67000000], []⟩) (H := fun (s : Int × Int × (List Int)) => match s with | (p8, p9, p10) => (⟨([.ptr 1000000 0 0 0 2, .one (.v (.int .u64 a1)), .one (.v (.int .i64 a2))] ++ (und 4 ++ ([.one (.v (.int .i64 a2)), .one (.v (.int .i64 p8))] ++ (und 13))) : List PV), ([(1000000, ⟨0, 2, [[.ms 67000000 0 0 (p10.length) 1, .v (.int .i64 p9)]], false, false⟩), (67000000, ⟨0, 1, Zi .u8 p10, false, true⟩)] : Boxes)⟩ : ASt)) (by kernel_rfl) hr (by simp [und, List.replicate, ]) ?_
 rintro ⟨p8, p9, p10⟩ x13r hr13
 simp only [X4] at hr13
 unfold b43_1
 simp only [und, List.replicate, List.cons_append, List.nil_append]
 refine Za rfl (by simp []; rfl) ?_
 by_cases c14 : p8 < a2
 ·skip
  rw [if_pos] at hr13
  rotate_left
  ·simp [c14]
  refine Ze (by simp [bV, c14]) ?_
  refine Zh ?_
  refine Zk ?_
  refine Za rfl (by simp [c14]; rfl) ?_
  obtain ⟨_, u15, hr13⟩ := bs hr13
  have u15_0 := Zp u15
  obtain ⟨y16, hy16, hr13⟩ := bs hr13
  have ehy16 := Zgy hy16
  simp only [Zdj, Zev, nf, nfs] at ehy16
  refine ZA rfl (by simp [u15_0, hO, hT42, ehy16, c14]; rfl) ?_
  simp only [pq, reduceCtorEq]
  refine ZA rfl (by simp [c14]; rfl) ?_
  obtain rfl := Option.some.inj hr13
  simp only [pq, reduceCtorEq]
  simp [und, List.replicate, Nat.add_assoc, c14]
 ·skip
  rw [if_neg] at hr13
  rotate_left
  ·simp [c14]
  refine Zg (by simp [bV, c14]) ?_
  refine Zo ?_
  obtain rfl := Option.some.inj hr13
  simp only [pq, reduceCtorEq]
  rintro rfl
  simp [Zn, c14]
def kp27 : Keep := fun i => if i = 10 then ⟨[1, 2, 6, 9, 40, 41], [6, 39, 3002496], []⟩ else ⟨[], [], []⟩
theorem w27 {T : Tab} (hO : T.own = fun d => if d = 44 then [[1]] else if d = 47 then [[1]] else if d = 51 then [[1]] else []) (hT40 : T 40 = some G40) (hT41 : T 41 = some G41) (hT42 : T 42 = some G42_1) (hT43 : T 43 = some G43_2) (a0 : Tapi_Bits) (a1 : Int) (a2 : Int) (x : Tapi_Bits × Int) (hr : Xw a0 a1 a2 = some x) : ∃ kp fl n, ZI tt T G kp fl n Try.f27 (E27 (a0, a1, a2)) = some (R27 (a0, a1, a2) x) := by
 simp only [E27, R27]
 refine fnE (kp := kp27) (w := false) body27 (by simp) ?_
 unfold c27
 rw [Try.ntmps27]
 unfold Xw at hr
 refine Za rfl (by simp []; rfl) ?_
 refine Zf ?_
 obtain ⟨y16, hy16, hr⟩ := bs hr
 have ehy16 := ZiO hy16
 simp only [E40, R40, nf, nfs] at ehy16
 refine Za rfl (by simp [hO, hT40, ehy16]; rfl) ?_
 by_cases c17 : y16 = true
 ·skip
  rw [if_neg (not_not_intro c17)] at hr
  refine Zg (by simp [bV, c17]) ?_
  refine Zh ?_
  refine Zf ?_
  by_cases c18 : a2 < 0
  ·skip
   refine Za rfl (by simp [c17, c18]; rfl) ?_
   rw [if_pos] at hr
   rotate_left
   ·simp [c17, c18]
   refine Ze (by simp [bV, c17, c18]) ?_
   refine Zf ?_
   refine Za rfl (by simp [c17, c18]; rfl) ?_
   refine Zl ?_
   obtain rfl := Option.some.inj hr
   simp [Zn, c17, c18]
  ·skip
   refine Za rfl (by simp [c17, c18]; rfl) ?_
   by_cases c19 : 32 < a2
   ·skip
    rw [if_pos] at hr
    rotate_left
    ·simp [c17, c18, c19]
    refine Ze (by simp [bV, c17, c18, c19]) ?_
    refine Zf ?_
    refine Za rfl (by simp [c17, c18, c19]; rfl) ?_
    refine Zl ?_
    obtain rfl := Option.some.inj hr
    simp [Zn, c17, c18, c19]
   ·skip
    rw [if_neg] at hr
    rotate_left
    ·simp [c17, c18, c19]
    refine Zg (by simp [bV, c17, c18, c19]) ?_
    refine Zh ?_
    obtain ⟨_, u20, hr⟩ := bs hr
    have u20_0 := Zp u20
    refine Za rfl (by simp [u20_0, c17, c18, c19]; rfl) ?_
    refine Zf ?_
    by_cases c21 : 65536 < (a1).fdiv (2 ^ (min (a2).toNat 64))
    ·skip
     have c21N := c21
     try simp at c21N
     first | have c21M : (_ = _) = True := eq_true c21N | have c21M := c21N
     refine Za rfl (by simp [c17, c18, c19, c21, c21M]; rfl) ?_
     rw [if_pos] at hr
     rotate_left
     ·simp [c17, c18, c19, c21, c21M]
     refine Ze (by simp [bV, c17, c18, c19, c21, c21M]) ?_
     refine Zf ?_
     refine Za rfl (by simp [c17, c18, c19, c21, c21M]; rfl) ?_
     refine Zl ?_
     obtain rfl := Option.some.inj hr
     simp [Zn, c17, c18, c19, c21, c21M, c21N]
    ·skip
     have c21N := c21
     try simp at c21N
     first | have c21M : (_ = _) = True := eq_true c21N | have c21M := c21N
     refine Za rfl (by simp [c17, c18, c19, c21, c21M]; rfl) ?_
     by_cases c22 : 1600000 < IntKind.i64.wrap ((IntKind.i64.wrap ((IntKind.i64.wrap (a0.2 + (IntKind.i64.wrap ((a1).fdiv (2 ^ (min (a2).toNat 64)))))) + 1)) + a2)
     ·skip
      have c22N := c22
      try simp at c22N
      first | have c22M : (_ = _) = True := eq_true c22N | have c22M := c22N
      rw [if_pos] at hr
      rotate_left
      ·simp [c17, c18, c19, c21, c21M, c22, c22M]
      refine Ze (by simp [bV, c17, c18, c19, c21, c21M, c22, c22M]) ?_
      refine Zf ?_
      refine Za rfl (by simp [c17, c18, c19, c21, c21M, c22, c22M]; rfl) ?_
      refine Zl ?_
      obtain rfl := Option.some.inj hr
      simp [Zn, c17, c18, c19, c21, c21M, c22, c22M, c21N, c22N]
     ·skip
      have c22N := c22
      try simp at c22N
      first | have c22M : (_ = _) = True := eq_true c22N | have c22M := c22N
      rw [if_neg] at hr
      rotate_left
      ·simp [c17, c18, c19, c21, c21M, c22, c22M]
      refine Zg (by simp [bV, c17, c18, c19, c21, c21M, c22, c22M]) ?_
      refine Zh ?_
      obtain ⟨y23, hy23, hr⟩ := bs hr
      have ehy23 := ZnZ hy23
      simp only [E41, R41, nf, nfs] at ehy23
      refine Za rfl (by simp [hO, hT41, ehy23, c17, c18, c19, c21, c21M, c22, c22M]; rfl) ?_
      refine Zf ?_
      refine Za rfl (by simp [c17, c18, c19, c21, c21M, c22, c22M]; rfl) ?_
      refine Zk ?_
      refine ZU (kq := ⟨[1, 2, 6, 9, 40, 41], [6, 39, 3002496], []⟩) (H := fun (s : Int × Int × (List Int)) => match s with | (p9, p10, p11) => (⟨(und 1 ++ ([.one (.v (.int .u64 a1)), .one (.v (.int .i64 a2))] ++ (und 3 ++ ([.ptr 6 0 0 0 2] ++ (und 2 ++ ([.ptr 39 0 0 0 2] ++ (und 30 ++ ([.one (.v (.int .u64 ((a1).fdiv (2 ^ (min (a2).toNat 64))))), .one (.v (.int .u64 p9))] ++ (und 14)))))))) : List PV), ([(6, ⟨0, 2, [[.slice .nil [], .v (.int .i64 0)]], false, false⟩), (39, ⟨0, 2, [[.ms 3002496 0 0 (p11.length) 1, .v (.int .i64 p10)]], false, false⟩), (3002496, ⟨0, 1, Zi .u8 p11, false, true⟩)] : Boxes)⟩ : ASt)) (by kernel_rfl) hr (by simp [und, List.replicate, c17, c18, c19, c21, c21M, c22, c22M]) ?_
      rintro ⟨p9, p10, p11⟩ x28r hr28
      simp only [ZaB] at hr28
      unfold b27_1
      simp only [und, List.replicate, List.cons_append, List.nil_append]
      refine Za rfl (by simp [c17, c18, c19, c21, c21M, c22, c22M]; rfl) ?_
      by_cases c29 : p9 < (a1).fdiv (2 ^ (min (a2).toNat 64))
      ·skip
       have c29N := c29
       try simp at c29N
       first | have c29M : (_ = _) = True := eq_true c29N | have c29M := c29N
       rw [if_pos] at hr28
       rotate_left
       ·simp [c17, c18, c19, c21, c21M, c22, c22M, c29, c29M]
       refine Ze (by simp [bV, c17, c18, c19, c21, c21M, c22, c22M, c29, c29M]) ?_
       refine Zh ?_
       refine Zk ?_
       obtain ⟨y30, hy30, hr28⟩ := bs hr28
       have ehy30 := Zgy hy30
       simp only [Zdj, Zev, nf, nfs] at ehy30
       refine ZA rfl (by simp [hO, hT42, ehy30, c17, c18, c19, c21, c21M, c22, c22M, c29, c29M]; rfl) ?_
       simp only [pq, reduceCtorEq]
       refine ZA rfl (by simp [c17, c18, c19, c21, c21M, c22, c22M, c29, c29M]; rfl) ?_
       obtain rfl := Option.some.inj hr28
       simp only [pq, reduceCtorEq]
       simp [und, List.replicate, Nat.add_assoc, c17, c18, c19, c21, c21M, c22, c22M, c29, c29M]
      ·skip
       have c29N := c29
       try simp at c29N
       first | have c29M : (_ = _) = True := eq_true c29N | have c29M := c29N
       rw [if_neg] at hr28
       rotate_left
       ·simp [c17, c18, c19, c21, c21M, c22, c22M, c29, c29M]
       refine Zg (by simp [bV, c17, c18, c19, c21, c21M, c22, c22M, c29, c29M]) ?_
       refine Zo ?_
       obtain ⟨r31, q31, rfl⟩ := ms hr28
       simp only [pq, reduceCtorEq]
       rintro rfl
       try simp only [pq, reduceCtorEq]
       unfold Zca at q31
       obtain ⟨y32, hy32, q31⟩ := bs q31
       have ehy32 := Zgy hy32
       simp only [Zdj, Zev, nf, nfs] at ehy32
       refine Za rfl (by simp [hO, hT42, ehy32, c17, c18, c19, c21, c21M, c22, c22M, c29, c29M]; rfl) ?_
       obtain ⟨y33, hy33, q31⟩ := bs q31
       have ehy33 := Zmt hy33
       simp only [Zd5, Zf1, nf, nfs] at ehy33
       refine Za rfl (by simp [hO, hT43, ehy33, c17, c18, c19, c21, c21M, c22, c22M, c29, c29M]; rfl) ?_
       refine Za rfl (by simp [c17, c18, c19, c21, c21M, c22, c22M, c29, c29M]; rfl) ?_
       refine Zx ?_
       obtain rfl := Option.some.inj q31
       simp [Zn, c17, c18, c19, c21, c21M, c22, c22M, c29, c29M, c21N, c22N, c29N]
 ·skip
  rw [if_pos c17] at hr
  refine Ze (by simp [bV, c17]) ?_
  refine Zf ?_
  refine Za rfl (by simp [c17]; rfl) ?_
  refine Zl ?_
  obtain rfl := Option.some.inj hr
  simp [Zn, c17]
def kp13 : Keep := fun i => if i = 10 then ⟨[0, 1, 4, 6, 7, 27, 28, 29], [4, 6], [(6, some 0, 0, 0)]⟩ else ⟨[], [], []⟩
theorem w13 {T : Tab} (hO : T.own = fun _ => []) (hT26 : T 26 = some G26) (hT27 : T 27 = some G27) (a0 : (List Int)) (a1 : Int) (x : Tapi_Filter × Int) (hr : XB a0 a1 = some x) : ∃ kp fl n, ZI tt T G kp fl n Try.f13 (E13 (a0, a1)) = some (R13 (a0, a1) x) := by
 simp only [E13, R13]
 refine fnE (kp := kp13) (w := false) body13 (by simp) ?_
 unfold c13
 rw [Try.ntmps13]
 unfold XB at hr
 refine Za rfl (by simp []; rfl) ?_
 refine Zf ?_
 refine Za rfl (by simp []; rfl) ?_
 by_cases c18 : 4096 < (a0.length : Int)
 ·skip
  have c18N := c18
  try simp at c18N
  first | have c18M : (_ = _) = True := eq_true c18N | have c18M := c18N
  rw [if_pos c18] at hr
  refine Ze (by simp [bV, c18, c18M]) ?_
  refine Zf ?_
  refine Za rfl (by simp [c18, c18M]; rfl) ?_
  refine Zl ?_
  obtain rfl := Option.some.inj hr
  simp [Zn, c18, c18M, c18N]
 ·skip
  have c18N := c18
  try simp at c18N
  first | have c18M : (_ = _) = True := eq_true c18N | have c18M := c18N
  rw [if_neg c18] at hr
  refine Zg (by simp [bV, c18, c18M]) ?_
  refine Zh ?_
  refine Zf ?_
  by_cases c19 : a1 < 0
  ·skip
   refine Za rfl (by simp [c18, c18M, c19]; rfl) ?_
   rw [if_pos] at hr
   rotate_left
   ·simp [c18, c18M, c19]
   refine Ze (by simp [bV, c18, c18M, c19]) ?_
   refine Zf ?_
   refine Za rfl (by simp [c18, c18M, c19]; rfl) ?_
   refine Zl ?_
   obtain rfl := Option.some.inj hr
   simp [Zn, c18, c18M, c19, c18N]
  ·skip
   refine Za rfl (by simp [c18, c18M, c19]; rfl) ?_
   by_cases c20 : 32 < a1
   ·skip
    rw [if_pos] at hr
    rotate_left
    ·simp [c18, c18M, c19, c20]
    refine Ze (by simp [bV, c18, c18M, c19, c20]) ?_
    refine Zf ?_
    refine Za rfl (by simp [c18, c18M, c19, c20]; rfl) ?_
    refine Zl ?_
    obtain rfl := Option.some.inj hr
    simp [Zn, c18, c18M, c19, c20, c18N]
   ·skip
    rw [if_neg] at hr
    rotate_left
    ·simp [c18, c18M, c19, c20]
    refine Zg (by simp [bV, c18, c18M, c19, c20]) ?_
    refine Zh ?_
    refine Zf ?_
    obtain ⟨y21, hy21, hr⟩ := bs hr
    have ehy21 := ZnY hy21
    simp only [E26, R26, nf, nfs] at ehy21
    refine Za rfl (by simp [hO, hT26, ehy21, c18, c18M, c19, c20]; rfl) ?_
    by_cases c22 : y21 = true
    ·skip
     rw [if_neg (not_not_intro c22)] at hr
     refine Zg (by simp [bV, c18, c18M, c19, c20, c22]) ?_
     refine Zh ?_
     refine Za rfl (by simp [c18, c18M, c19, c20, c22]; rfl) ?_
     refine Za rfl (by simp [c18, c18M, c19, c20, c22]; rfl) ?_
     refine Zf ?_
     refine Za rfl (by simp [c18, c18M, c19, c20, c22]; rfl) ?_
     refine Zk ?_
     refine ZU (kq := ⟨[0, 1, 4, 6, 7, 27, 28, 29], [4, 6], [(6, some 0, 0, 0)]⟩) (H := fun (s : Int × Int × (List Int) × Int) => match s with | (p10, p11, p12, p13) => (⟨([.one (.slice .no (Zi .u64 a0)), .one (.v (.int .i64 a1))] ++ (und 2 ++ ([.ptr 4 0 0 0 2] ++ (und 1 ++ ([.ptr 6 0 0 0 2, .one (.v (.int .u64 p10))] ++ (und 19 ++ ([.one (.slice .no (Zi .u64 a0)), .one (.v (.int .i64 (a0.length : Int))), .one (.v (.int .i64 p11))] ++ (und 24))))))) : List PV), ([(4, ⟨0, 2, [[.v (.int .i64 0), .slice .nil []]], false, false⟩), (6, ⟨0, 2, [[.slice .no (Zi .u8 p12), .v (.int .i64 p13)]], false, false⟩)] : Boxes)⟩ : ASt)) (by kernel_rfl) hr (by simp [und, List.replicate, c18, c18M, c19, c20, c22]) ?_
     rintro ⟨p10, p11, p12, p13⟩ x29r hr29
     simp only [ZbD] at hr29
     unfold b13_1
     simp only [und, List.replicate, List.cons_append, List.nil_append]
     refine Za rfl (by simp [c18, c18M, c19, c20, c22]; rfl) ?_
     by_cases c30 : p11 < (a0.length : Int)
     ·skip
      have c30N := c30
      try simp at c30N
      first | have c30M : (_ = _) = True := eq_true c30N | have c30M := c30N
      rw [if_pos] at hr29
      rotate_left
      ·simp [c18, c18M, c19, c20, c22, c30, c30M]
      refine Ze (by simp [bV, c18, c18M, c19, c20, c22, c30, c30M]) ?_
      refine Zh ?_
      refine Zk ?_
      obtain ⟨x31, hx31, hr29⟩ := bs hr29
      obtain ⟨hx31a, hx31b⟩ := Y8 hx31
      have hx31c := Zq hx31b
      refine Za rfl (by simp [hx31a, hx31b, hx31c, c18, c18M, c19, c20, c22, c30, c30M]; rfl) ?_
      obtain ⟨y32, hy32, hr29⟩ := bs hr29
      have ehy32 := Zn0 hy32
      simp only [E27, R27, nf, nfs] at ehy32
      refine Za rfl (by simp [hO, hT27, ehy32, c18, c18M, c19, c20, c22, c30, c30M]; rfl) ?_
      refine Zf ?_
      refine Za rfl (by simp [c18, c18M, c19, c20, c22, c30, c30M]; rfl) ?_
      by_cases c33 : y32.2 = 0
      ·skip
       rw [if_neg (not_not_intro c33)] at hr29
       refine Zg (by simp [bV, c18, c18M, c19, c20, c22, c30, c30M, eq_true c33]) ?_
       refine Zh ?_
       refine ZA rfl (by simp [c18, c18M, c19, c20, c22, c30, c30M, eq_true c33]; rfl) ?_
       simp only [pq, reduceCtorEq]
       refine ZA rfl (by simp [c18, c18M, c19, c20, c22, c30, c30M, eq_true c33]; rfl) ?_
       obtain rfl := Option.some.inj hr29
       simp only [pq, reduceCtorEq]
       simp [und, List.replicate, Nat.add_assoc, c18, c18M, c19, c20, c22, c30, c30M, eq_true c33]
      ·skip
       rw [if_pos c33] at hr29
       refine Ze (by simp [bV, c18, c18M, c19, c20, c22, c30, c30M, c33]) ?_
       refine Zf ?_
       refine Za rfl (by simp [c18, c18M, c19, c20, c22, c30, c30M, c33]; rfl) ?_
       refine Zl ?_
       obtain rfl := Option.some.inj hr29
       simp only [pq, reduceCtorEq]
       rintro rfl
       simp [Zn, c18, c18M, c19, c20, c22, c30, c30M, c33, c18N, c30N]
     ·skip
      have c30N := c30
      try simp at c30N
      first | have c30M : (_ = _) = True := eq_true c30N | have c30M := c30N
      rw [if_neg] at hr29
      rotate_left
      ·simp [c18, c18M, c19, c20, c22, c30, c30M]
      refine Zg (by simp [bV, c18, c18M, c19, c20, c22, c30, c30M]) ?_
      refine Zo ?_
      obtain ⟨r34, q34, rfl⟩ := ms hr29
      simp only [pq, reduceCtorEq]
      rintro rfl
      try simp only [pq, reduceCtorEq]
      unfold Zcz at q34
      refine Za rfl (by simp [c18, c18M, c19, c20, c22, c30, c30M]; rfl) ?_
      refine Zx ?_
      obtain rfl := Option.some.inj q34
      simp [Zn, c18, c18M, c19, c20, c22, c30, c30M, c18N, c30N]
    ·skip
     rw [if_pos c22] at hr
     refine Ze (by simp [bV, c18, c18M, c19, c20, c22]) ?_
     refine Zf ?_
     refine Za rfl (by simp [c18, c18M, c19, c20, c22]; rfl) ?_
     refine Zl ?_
     obtain rfl := Option.some.inj hr
     simp [Zn, c18, c18M, c19, c20, c22, c18N]
def kp58 : Keep := fun i => ⟨[], [], []⟩
theorem w58 {T : Tab} (a0 : Int) (a1 : Int) (x : Int × Int) (hr : XK a0 a1 = some x) : ∃ kp fl n, ZI tt T G kp fl n Try.f58 (E58 (a0, a1)) = some (R58 (a0, a1) x) := by
 simp only [E58, R58]
 refine fnE (kp := kp58) (w := false) body58 (by simp) ?_
 unfold c58
 rw [Try.ntmps58]
 unfold XK at hr
 refine Za rfl (by simp []; rfl) ?_
 refine Za rfl (by simp []; rfl) ?_
 refine Za rfl (by simp []; rfl) ?_
 refine Za rfl (by simp []; rfl) ?_
 refine Za rfl (by simp []; rfl) ?_
 refine Za rfl (by simp []; rfl) ?_
 refine Za rfl (by simp []; rfl) ?_
 refine Za rfl (by simp []; rfl) ?_
 refine Za rfl (by simp []; rfl) ?_
 refine Za rfl (by simp []; rfl) ?_
 refine Za rfl (by simp []; rfl) ?_
 refine Za rfl (by simp []; rfl) ?_
 refine Zx ?_
 obtain rfl := Option.some.inj hr
 simp [Zn, ]
def kp47 : Keep := fun i => ⟨[], [], []⟩
theorem w47 {T : Tab} (hO : T.own = fun _ => []) (hT58 : T 58 = some G58) (a0 : Int) (a1 : Int) (x : Int) (hr : ZbU a0 a1 = some x) : ∃ kp fl n, ZI tt T G kp fl n Try.f47 (E47 (a0, a1)) = some (R47 (a0, a1) x) := by
 simp only [E47, R47]
 refine fnE (kp := kp47) (w := false) body47 (by simp) ?_
 unfold c47
 rw [Try.ntmps47]
 unfold ZbU at hr
 refine Za rfl (by simp []; rfl) ?_
 obtain ⟨y2, hy2, hr⟩ := bs hr
 have ehy2 := Zlm hy2
 simp only [E58, R58, nf, nfs] at ehy2
 refine Za rfl (by simp [hO, hT58, ehy2]; rfl) ?_
 refine Za rfl (by simp []; rfl) ?_
 refine Zx ?_
 obtain rfl := Option.some.inj hr
 simp [Zn, ]
def kp67 : Keep := fun i => ⟨[], [], []⟩
theorem w67 {T : Tab} (a0 : Int) (a1 : Int) (x : Int) (hr : ZH a0 a1 = some x) : ∃ kp fl n, ZI tt T G kp fl n Try.f67 (E67 (a0, a1)) = some (R67 (a0, a1) x) := by
 simp only [E67, R67]
 refine fnE (kp := kp67) (w := false) body67 (by simp) ?_
 unfold c67
 rw [Try.ntmps67]
 unfold ZH at hr
 refine Za rfl (by simp []; rfl) ?_
 refine Za rfl (by simp []; rfl) ?_
 obtain ⟨_, u3, hr⟩ := bs hr
 have u3_0 := Zp u3
 obtain ⟨_, u4, hr⟩ := bs hr
 have u4_0 := Zp u4
 refine Za rfl (by simp [u3_0, u4_0]; rfl) ?_
 refine Zx ?_
 obtain rfl := Option.some.inj hr
 simp [Zn, u3_0, u4_0]
end Go.Proofs.Ytmjbklblgpnagaa
