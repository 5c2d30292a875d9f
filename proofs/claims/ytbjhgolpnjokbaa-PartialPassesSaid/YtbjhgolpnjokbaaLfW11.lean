import Derived.Test.YtbjhgolpnjokbaaLfK
import Derived.Test.YtbjhgolpnjokbaaCode
namespace Go.Proofs.Ytbjhgolpnjokbaa
open Go.RowKit
open Go.Av
open Go.Lc
set_option maxRecDepth 100000
set_option linter.unusedSimpArgs false
set_option linter.unusedVariables false
set_option maxHeartbeats 4000000
variable {G : Glob}
def kp53 : Keep := fun i => ⟨[], [], []⟩
theorem w53 {T : Tab} (hO : T.own = fun _ => []) (hT71 : T 71 = some G71) (a0 : Tapi_Coin) (a1 : Tapi_Coin) (x : Bool) (hr : X3 a0 a1 = some x) : ∃ kp fl n, ZC tt T G kp fl n Try.f53 (E53 (a0, a1)) = some (R53 (a0, a1) x) := by
 simp only [E53, R53]
 refine fnE (kp := kp53) (w := false) body53 (by simp) ?_
 unfold c53
 rw [Try.ntmps53]
 unfold X3 at hr
 refine Za rfl (by simp []; rfl) ?_
 by_cases c3 : a0.1.1 = a1.1.1
 ·skip
  by_cases c4 : a0.1.2 = a1.1.2
  ·skip
   rw [if_pos] at hr
   rotate_left
   ·simp [eq_true c3, eq_true c4]
   obtain ⟨z5, hz5, hr⟩ := bs hr
   obtain ⟨y6, hy6, hz5⟩ := bs hz5
   have ehy6 := Zqd hy6
   simp only [E71, R71, nf, nfs] at ehy6
   obtain rfl := Option.some.inj hz5
   by_cases c7 : y6 = true
   ·skip
    by_cases c8 : a0.2.2.1 = a1.2.2.1
    ·skip
     refine Za rfl (by simp [hO, hT71, ehy6, eq_true c3, eq_true c4, c7, eq_true c8]; rfl) ?_
     refine Zh ?_
     obtain rfl := Option.some.inj hr
     simp [Zi, hO, hT71, ehy6, eq_true c3, eq_true c4, c7, eq_true c8]
    ·skip
     refine Za rfl (by simp [hO, hT71, ehy6, eq_true c3, eq_true c4, c7, c8]; rfl) ?_
     refine Zh ?_
     obtain rfl := Option.some.inj hr
     simp [Zi, hO, hT71, ehy6, eq_true c3, eq_true c4, c7, c8]
   ·skip
    refine Za rfl (by simp [hO, hT71, ehy6, eq_true c3, eq_true c4, c7]; rfl) ?_
    refine Zh ?_
    obtain rfl := Option.some.inj hr
    simp [Zi, hO, hT71, ehy6, eq_true c3, eq_true c4, c7]
  ·skip
   rw [if_neg] at hr
   rotate_left
   ·simp [eq_true c3, c4]
   obtain ⟨z9, hz9, hr⟩ := bs hr
   obtain rfl := Option.some.inj hz9
   refine Za rfl (by simp [eq_true c3, c4]; rfl) ?_
   refine Zh ?_
   obtain rfl := Option.some.inj hr
   simp [Zi, eq_true c3, c4]
 ·skip
  rw [if_neg] at hr
  rotate_left
  ·simp [c3]
  obtain ⟨z10, hz10, hr⟩ := bs hr
  obtain rfl := Option.some.inj hz10
  refine Za rfl (by simp [c3]; rfl) ?_
  refine Zh ?_
  obtain rfl := Option.some.inj hr
  simp [Zi, c3]
def kp24 : Keep := fun i => if i = 4 then ⟨[2, 3, 5], [2, 3], []⟩ else ⟨[], [], []⟩
theorem w24 {T : Tab} (hO : T.own = fun _ => []) (hT52 : T 52 = some G52) (hT53 : T 53 = some G53) (a0 : Tapi_Plan) (a1 : Tapi_Plan) (x : Bool) (hr : ZaZ a0 a1 = some x) : ∃ kp fl n, ZC tt T G kp fl n Try.f24 (E24 (a0, a1)) = some (R24 (a0, a1) x) := by
 simp only [E24, R24]
 refine fnE (kp := kp24) (w := false) body24 (by simp) ?_
 unfold c24
 rw [Try.ntmps24]
 unfold ZaZ at hr
 refine Za rfl (by simp []; rfl) ?_
 refine Zd ?_
 obtain ⟨y16, hy16, hr⟩ := bs hr
 have ehy16 := Zs9 hy16
 simp only [E52, R52, nf, nfs] at ehy16
 by_cases c17 : y16 = true
 ·skip
  by_cases c18 : a0.2.2.1 = a1.2.2.1
  ·skip
   by_cases c19 : a0.2.2.2 = a1.2.2.2
   ·skip
    refine Za rfl (by simp [hO, hT52, ehy16, c17, eq_true c18, eq_true c19]; rfl) ?_
    by_cases c20 : (a0.2.1.length : Int) = (a1.2.1.length : Int)
    ·skip
     have c20N := c20
     try simp at c20N
     rw [if_neg] at hr
     rotate_left
     ·simp [c17, eq_true c18, eq_true c19, eq_true c20, eq_true c20N]
     refine Zf (by simp [bV, c17, eq_true c18, eq_true c19, eq_true c20, eq_true c20N]) ?_
     refine Zg ?_
     refine Zd ?_
     refine Za rfl (by simp [c17, eq_true c18, eq_true c19, eq_true c20, eq_true c20N]; rfl) ?_
     refine Zj ?_
     refine Z2 (kq := ⟨[2, 3, 5], [2, 3], []⟩) (H := fun (s : Int) => match s with | p9 => (⟨(und 2 ++ ([.ptr 2 0 0 0 7, .ptr 3 0 0 0 7] ++ (und 1 ++ ([.one (.v (.int .i64 p9))] ++ (und 48)))) : List PV), ([(2, ⟨0, 7, [[.v (.int .u32 a0.1.1), .slice .no (List.map Zo a0.1.2.1), .slice .no (List.map Zm a0.1.2.2.1), .v (.int .u32 a0.1.2.2.2), .slice .no (List.map ZL a0.2.1), .v (.int .i64 a0.2.2.1), .v (.int .i64 a0.2.2.2)]], false, false⟩), (3, ⟨0, 7, [[.v (.int .u32 a1.1.1), .slice .no (List.map Zo a1.1.2.1), .slice .no (List.map Zm a1.1.2.2.1), .v (.int .u32 a1.1.2.2.2), .slice .no (List.map ZL a1.2.1), .v (.int .i64 a1.2.2.1), .v (.int .i64 a1.2.2.2)]], false, false⟩)] : Boxes)⟩ : ASt)) (by kernel_rfl) hr (by simp [und, List.replicate, c17, eq_true c18, eq_true c19, eq_true c20, eq_true c20N]) ?_
     rintro p9 x28r hr28
     simp only [Zdu] at hr28
     unfold b24_1
     simp only [und, List.replicate, List.cons_append, List.nil_append]
     refine Zd ?_
     refine Za rfl (by simp [c17, eq_true c18, eq_true c19, eq_true c20, eq_true c20N]; rfl) ?_
     by_cases c29 : p9 < (a0.2.1.length : Int)
     ·skip
      have c29N := c29
      try simp at c29N
      first | have c29M : (_ = _) = True := eq_true c29N | have c29M := c29N
      rw [if_pos] at hr28
      rotate_left
      ·simp [c17, eq_true c18, eq_true c19, eq_true c20, eq_true c20N, c29, c29M]
      refine Ze (by simp [bV, c17, eq_true c18, eq_true c19, eq_true c20, eq_true c20N, c29, c29M]) ?_
      refine Zg ?_
      refine Zj ?_
      obtain ⟨x30, hx30, hr28⟩ := bs hr28
      obtain ⟨hx30a, hx30b⟩ := ZJ hx30
      have hx30c := Zz hx30b
      obtain ⟨x31, hx31, hr28⟩ := bs hr28
      obtain ⟨hx31a, hx31b⟩ := ZJ hx31
      have hx31c := Zz hx31b
      obtain ⟨y32, hy32, hr28⟩ := bs hr28
      have ehy32 := Zta hy32
      simp only [E53, R53, nf, nfs] at ehy32
      refine ZR rfl (by simp [hx30a, hx30b, hx30c, hx31a, hx31b, hx31c, hO, hT53, ehy32, c17, eq_true c18, eq_true c19, eq_true c20, eq_true c20N, c29, c29M]; first | exact ⟨rfl, rfl⟩ | rfl) (by kernel_rfl) ?_
      by_cases c33 : y32 = true
      ·skip
       rw [if_neg (not_not_intro c33)] at hr28
       refine ZI (by simp [bV, c17, eq_true c18, eq_true c19, eq_true c20, eq_true c20N, c29, c29M, c33]) ?_
       refine Yb ?_
       simp only [pq, reduceCtorEq]
       refine ZM rfl (by simp [c17, eq_true c18, eq_true c19, eq_true c20, eq_true c20N, c29, c29M, c33]; rfl) ?_
       obtain rfl := Option.some.inj hr28
       simp only [pq, reduceCtorEq]
       simp [und, List.replicate, Nat.add_assoc, c17, eq_true c18, eq_true c19, eq_true c20, eq_true c20N, c29, c29M, c33]
      ·skip
       rw [if_pos c33] at hr28
       refine Zy (by simp [bV, c17, eq_true c18, eq_true c19, eq_true c20, eq_true c20N, c29, c29M, c33]) ?_
       refine Za rfl (by simp [c17, eq_true c18, eq_true c19, eq_true c20, eq_true c20N, c29, c29M, c33]; rfl) ?_
       refine Zh ?_
       obtain rfl := Option.some.inj hr28
       simp only [pq, reduceCtorEq]
       rintro rfl
       simp [Zi, c17, eq_true c18, eq_true c19, eq_true c20, eq_true c20N, c29, c29M, c33, c29N]
     ·skip
      have c29N := c29
      try simp at c29N
      first | have c29M : (_ = _) = True := eq_true c29N | have c29M := c29N
      rw [if_neg] at hr28
      rotate_left
      ·simp [c17, eq_true c18, eq_true c19, eq_true c20, eq_true c20N, c29, c29M]
      refine Zf (by simp [bV, c17, eq_true c18, eq_true c19, eq_true c20, eq_true c20N, c29, c29M]) ?_
      refine ZD ?_
      obtain ⟨r34, q34, rfl⟩ := ms hr28
      simp only [pq, reduceCtorEq]
      rintro rfl
      try simp only [pq, reduceCtorEq]
      unfold Lref34_Same_k1 at q34
      refine Za rfl (by simp [c17, eq_true c18, eq_true c19, eq_true c20, eq_true c20N, c29, c29M]; rfl) ?_
      refine Zh ?_
      obtain rfl := Option.some.inj q34
      simp [Zi, c17, eq_true c18, eq_true c19, eq_true c20, eq_true c20N, c29, c29M, c29N]
    ·skip
     have c20N := c20
     try simp at c20N
     first | have c20M : (_ = _) = True := eq_true c20N | have c20M := c20N
     rw [if_pos] at hr
     rotate_left
     ·simp [c17, eq_true c18, eq_true c19, c20, c20M]
     refine Ze (by simp [bV, c17, eq_true c18, eq_true c19, c20, c20M]) ?_
     refine Zd ?_
     refine Za rfl (by simp [c17, eq_true c18, eq_true c19, c20, c20M]; rfl) ?_
     refine Zl ?_
     obtain rfl := Option.some.inj hr
     simp [Zi, c17, eq_true c18, eq_true c19, c20, c20M, c20N]
   ·skip
    refine Za rfl (by simp [hO, hT52, ehy16, c17, eq_true c18, c19]; rfl) ?_
    rw [if_pos] at hr
    rotate_left
    ·simp [c17, eq_true c18, c19]
    refine Ze (by simp [bV, c17, eq_true c18, c19]) ?_
    refine Zd ?_
    refine Za rfl (by simp [c17, eq_true c18, c19]; rfl) ?_
    refine Zl ?_
    obtain rfl := Option.some.inj hr
    simp [Zi, c17, eq_true c18, c19]
  ·skip
   refine Za rfl (by simp [hO, hT52, ehy16, c17, c18]; rfl) ?_
   rw [if_pos] at hr
   rotate_left
   ·simp [c17, c18]
   refine Ze (by simp [bV, c17, c18]) ?_
   refine Zd ?_
   refine Za rfl (by simp [c17, c18]; rfl) ?_
   refine Zl ?_
   obtain rfl := Option.some.inj hr
   simp [Zi, c17, c18]
 ·skip
  refine Za rfl (by simp [hO, hT52, ehy16, c17]; rfl) ?_
  rw [if_pos] at hr
  rotate_left
  ·simp [c17]
  refine Ze (by simp [bV, c17]) ?_
  refine Zd ?_
  refine Za rfl (by simp [c17]; rfl) ?_
  refine Zl ?_
  obtain rfl := Option.some.inj hr
  simp [Zi, c17]
def kp9 : Keep := fun i => if i = 4 then ⟨[2, 3, 5], [2, 3], []⟩ else ⟨[], [], []⟩
theorem w9 {T : Tab} (hO : T.own = fun _ => []) (hT24 : T 24 = some G24) (a0 : Tapi_PartialTx) (a1 : Tapi_PartialTx) (x : Bool) (hr : Xl a0 a1 = some x) : ∃ kp fl n, ZC tt T G kp fl n Try.f9 (E9 (a0, a1)) = some (R9 (a0, a1) x) := by
 simp only [E9, R9]
 refine fnE (kp := kp9) (w := false) body9 (by simp) ?_
 unfold c9
 rw [Try.ntmps9]
 unfold Xl at hr
 refine Za rfl (by simp []; rfl) ?_
 refine Zd ?_
 obtain ⟨y12, hy12, hr⟩ := bs hr
 have ehy12 := Ztb hy12
 simp only [E24, R24, nf, nfs] at ehy12
 by_cases c13 : y12 = true
 ·skip
  refine Za rfl (by simp [hO, hT24, ehy12, c13]; rfl) ?_
  by_cases c14 : (a0.2.length : Int) = (a1.2.length : Int)
  ·skip
   have c14N := c14
   try simp at c14N
   rw [if_neg] at hr
   rotate_left
   ·simp [c13, eq_true c14, eq_true c14N]
   refine Zf (by simp [bV, c13, eq_true c14, eq_true c14N]) ?_
   refine Zg ?_
   refine Zd ?_
   refine Za rfl (by simp [c13, eq_true c14, eq_true c14N]; rfl) ?_
   refine Zj ?_
   refine Z2 (kq := ⟨[2, 3, 5], [2, 3], []⟩) (H := fun (s : Int) => match s with | p7 => (⟨(und 2 ++ ([.ptr 2 0 0 0 8, .ptr 3 0 0 0 8] ++ (und 1 ++ ([.one (.v (.int .i64 p7))] ++ (und 33)))) : List PV), ([(2, ⟨0, 8, [[.v (.int .u32 a0.1.1.1), .slice .no (List.map Zo a0.1.1.2.1), .slice .no (List.map Zm a0.1.1.2.2.1), .v (.int .u32 a0.1.1.2.2.2), .slice .no (List.map ZL a0.1.2.1), .v (.int .i64 a0.1.2.2.1), .v (.int .i64 a0.1.2.2.2), .slice .no (List.map ZX a0.2)]], false, false⟩), (3, ⟨0, 8, [[.v (.int .u32 a1.1.1.1), .slice .no (List.map Zo a1.1.1.2.1), .slice .no (List.map Zm a1.1.1.2.2.1), .v (.int .u32 a1.1.1.2.2.2), .slice .no (List.map ZL a1.1.2.1), .v (.int .i64 a1.1.2.2.1), .v (.int .i64 a1.1.2.2.2), .slice .no (List.map ZX a1.2)]], false, false⟩)] : Boxes)⟩ : ASt)) (by kernel_rfl) hr (by simp [und, List.replicate, c13, eq_true c14, eq_true c14N]) ?_
   rintro p7 x24r hr24
   simp only [Zdv] at hr24
   unfold b9_1
   simp only [und, List.replicate, List.cons_append, List.nil_append]
   refine Zd ?_
   refine Za rfl (by simp [c13, eq_true c14, eq_true c14N]; rfl) ?_
   by_cases c25 : p7 < (a0.2.length : Int)
   ·skip
    have c25N := c25
    try simp at c25N
    first | have c25M : (_ = _) = True := eq_true c25N | have c25M := c25N
    rw [if_pos] at hr24
    rotate_left
    ·simp [c13, eq_true c14, eq_true c14N, c25, c25M]
    refine Ze (by simp [bV, c13, eq_true c14, eq_true c14N, c25, c25M]) ?_
    refine Zg ?_
    refine Zj ?_
    obtain ⟨x26, hx26, hr24⟩ := bs hr24
    obtain ⟨hx26a, hx26b⟩ := ZJ hx26
    have hx26c := Zz hx26b
    obtain ⟨x27, hx27, hr24⟩ := bs hr24
    obtain ⟨hx27a, hx27b⟩ := ZJ hx27
    have hx27c := Zz hx27b
    refine ZR rfl (by simp [hx26a, hx26b, hx26c, hx27a, hx27b, hx27c, c13, eq_true c14, eq_true c14N, c25, c25M]; first | exact ⟨rfl, rfl⟩ | rfl) (by kernel_rfl) ?_
    by_cases c28 : x26.1 = x27.1
    ·skip
     by_cases c29 : x26.2.1 = x27.2.1
     ·skip
      by_cases c30 : x26.2.2.1 = x27.2.2.1
      ·skip
       by_cases c31 : x26.2.2.2 = x27.2.2.2
       ·skip
        rw [if_neg] at hr24
        rotate_left
        ·simp [c13, eq_true c14, eq_true c14N, c25, c25M, eq_true c28, eq_true c29, eq_true c30, eq_true c31]
        refine ZI (by simp [bV, c13, eq_true c14, eq_true c14N, c25, c25M, eq_true c28, eq_true c29, eq_true c30, eq_true c31]) ?_
        refine Yb ?_
        simp only [pq, reduceCtorEq]
        refine ZM rfl (by simp [c13, eq_true c14, eq_true c14N, c25, c25M, eq_true c28, eq_true c29, eq_true c30, eq_true c31]; rfl) ?_
        obtain rfl := Option.some.inj hr24
        simp only [pq, reduceCtorEq]
        simp [und, List.replicate, Nat.add_assoc, c13, eq_true c14, eq_true c14N, c25, c25M, eq_true c28, eq_true c29, eq_true c30, eq_true c31]
       ·skip
        rw [if_pos] at hr24
        rotate_left
        ·simp [c13, eq_true c14, eq_true c14N, c25, c25M, eq_true c28, eq_true c29, eq_true c30, c31]
        refine Zy (by simp [bV, c13, eq_true c14, eq_true c14N, c25, c25M, eq_true c28, eq_true c29, eq_true c30, c31]) ?_
        refine Za rfl (by simp [c13, eq_true c14, eq_true c14N, c25, c25M, eq_true c28, eq_true c29, eq_true c30, c31]; rfl) ?_
        refine Zh ?_
        obtain rfl := Option.some.inj hr24
        simp only [pq, reduceCtorEq]
        rintro rfl
        simp [Zi, c13, eq_true c14, eq_true c14N, c25, c25M, eq_true c28, eq_true c29, eq_true c30, c31, c25N]
      ·skip
       rw [if_pos] at hr24
       rotate_left
       ·simp [c13, eq_true c14, eq_true c14N, c25, c25M, eq_true c28, eq_true c29, c30]
       refine Zy (by simp [bV, c13, eq_true c14, eq_true c14N, c25, c25M, eq_true c28, eq_true c29, c30]) ?_
       refine Za rfl (by simp [c13, eq_true c14, eq_true c14N, c25, c25M, eq_true c28, eq_true c29, c30]; rfl) ?_
       refine Zh ?_
       obtain rfl := Option.some.inj hr24
       simp only [pq, reduceCtorEq]
       rintro rfl
       simp [Zi, c13, eq_true c14, eq_true c14N, c25, c25M, eq_true c28, eq_true c29, c30, c25N]
     ·skip
      rw [if_pos] at hr24
      rotate_left
      ·simp [c13, eq_true c14, eq_true c14N, c25, c25M, eq_true c28, c29]
      refine Zy (by simp [bV, c13, eq_true c14, eq_true c14N, c25, c25M, eq_true c28, c29]) ?_
      refine Za rfl (by simp [c13, eq_true c14, eq_true c14N, c25, c25M, eq_true c28, c29]; rfl) ?_
      refine Zh ?_
      obtain rfl := Option.some.inj hr24
      simp only [pq, reduceCtorEq]
      rintro rfl
      simp [Zi, c13, eq_true c14, eq_true c14N, c25, c25M, eq_true c28, c29, c25N]
    ·skip
     rw [if_pos] at hr24
     rotate_left
     ·simp [c13, eq_true c14, eq_true c14N, c25, c25M, c28]
     refine Zy (by simp [bV, c13, eq_true c14, eq_true c14N, c25, c25M, c28]) ?_
     refine Za rfl (by simp [c13, eq_true c14, eq_true c14N, c25, c25M, c28]; rfl) ?_
     refine Zh ?_
     obtain rfl := Option.some.inj hr24
     simp only [pq, reduceCtorEq]
     rintro rfl
     simp [Zi, c13, eq_true c14, eq_true c14N, c25, c25M, c28, c25N]
   ·skip
    have c25N := c25
    try simp at c25N
    first | have c25M : (_ = _) = True := eq_true c25N | have c25M := c25N
    rw [if_neg] at hr24
    rotate_left
    ·simp [c13, eq_true c14, eq_true c14N, c25, c25M]
    refine Zf (by simp [bV, c13, eq_true c14, eq_true c14N, c25, c25M]) ?_
    refine ZD ?_
    obtain ⟨r32, q32, rfl⟩ := ms hr24
    simp only [pq, reduceCtorEq]
    rintro rfl
    try simp only [pq, reduceCtorEq]
    unfold Lref35_Same_k1 at q32
    refine Za rfl (by simp [c13, eq_true c14, eq_true c14N, c25, c25M]; rfl) ?_
    refine Zh ?_
    obtain rfl := Option.some.inj q32
    simp [Zi, c13, eq_true c14, eq_true c14N, c25, c25M, c25N]
  ·skip
   have c14N := c14
   try simp at c14N
   first | have c14M : (_ = _) = True := eq_true c14N | have c14M := c14N
   rw [if_pos] at hr
   rotate_left
   ·simp [c13, c14, c14M]
   refine Ze (by simp [bV, c13, c14, c14M]) ?_
   refine Zd ?_
   refine Za rfl (by simp [c13, c14, c14M]; rfl) ?_
   refine Zl ?_
   obtain rfl := Option.some.inj hr
   simp [Zi, c13, c14, c14M, c14N]
 ·skip
  refine Za rfl (by simp [hO, hT24, ehy12, c13]; rfl) ?_
  rw [if_pos] at hr
  rotate_left
  ·simp [c13]
  refine Ze (by simp [bV, c13]) ?_
  refine Zd ?_
  refine Za rfl (by simp [c13]; rfl) ?_
  refine Zl ?_
  obtain rfl := Option.some.inj hr
  simp [Zi, c13]
def kp3 : Keep := fun i => ⟨[], [], []⟩
theorem w3 {T : Tab} (hO : T.own = fun _ => []) (hT4 : T 4 = some G4) (hT5 : T 5 = some G5) (hT6 : T 6 = some G6) (hT7 : T 7 = some G7) (hT8 : T 8 = some G8) (hT9 : T 9 = some G9) (hT10 : T 10 = some G10) (a0 : (List Int)) (a1 : (List Int)) (a2 : (List Int)) (x : Bool) (hr : YX a0 a1 a2 = some x) : ∃ kp fl n, ZC tt T G kp fl n Try.f3 (E3 (a0, a1, a2)) = some (R3 (a0, a1, a2) x) := by
 simp only [E3, R3]
 refine fnE (kp := kp3) (w := false) body3 (by simp) ?_
 unfold c3
 rw [Try.ntmps3]
 unfold YX at hr
 refine Za rfl (by simp []; rfl) ?_
 refine Zd ?_
 obtain ⟨y23, hy23, hr⟩ := bs hr
 have ehy23 := ZtQ hy23
 simp only [E4, R4, nf, nfs] at ehy23
 refine Za rfl (by simp [hO, hT4, ehy23]; rfl) ?_
 by_cases c24 : y23 = true
 ·skip
  rw [if_neg (not_not_intro c24)] at hr
  refine Zf (by simp [bV, c24]) ?_
  refine Zg ?_
  obtain ⟨y25, hy25, hr⟩ := bs hr
  have ehy25 := Zo0 hy25
  simp only [E6, R6, nf, nfs] at ehy25
  obtain ⟨y26, hy26, hr⟩ := bs hr
  have ehy26 := ZtR hy26
  simp only [E5, R5, nf, nfs] at ehy26
  refine Za rfl (by simp [hO, hT6, ehy25, hT5, ehy26, c24]; rfl) ?_
  obtain ⟨y27, hy27, hr⟩ := bs hr
  have ehy27 := Zo0 hy27
  simp only [E6, R6, nf, nfs] at ehy27
  obtain ⟨y28, hy28, hr⟩ := bs hr
  have ehy28 := ZoZ hy28
  simp only [E7, R7, nf, nfs] at ehy28
  refine ZR rfl (by simp [hO, hT6, ehy27, hT7, ehy28, c24]; first | exact ⟨rfl, rfl⟩ | rfl) (by kernel_rfl) ?_
  obtain ⟨y29, hy29, hr⟩ := bs hr
  have ehy29 := Zo0 hy29
  simp only [E6, R6, nf, nfs] at ehy29
  obtain ⟨y30, hy30, hr⟩ := bs hr
  have ehy30 := ZoZ hy30
  simp only [E7, R7, nf, nfs] at ehy30
  refine ZR rfl (by simp [hO, hT6, ehy29, hT7, ehy30, c24]; first | exact ⟨rfl, rfl⟩ | rfl) (by kernel_rfl) ?_
  obtain ⟨y31, hy31, hr⟩ := bs hr
  have ehy31 := Zgz hy31
  simp only [E8, R8, nf, nfs] at ehy31
  refine Za rfl (by simp [hO, hT8, ehy31, c24]; rfl) ?_
  obtain ⟨y32, hy32, hr⟩ := bs hr
  have ehy32 := Zgz hy32
  simp only [E8, R8, nf, nfs] at ehy32
  refine Za rfl (by simp [hO, hT8, ehy32, c24]; rfl) ?_
  obtain ⟨y33, hy33, hr⟩ := bs hr
  have ehy33 := Zgz hy33
  simp only [E8, R8, nf, nfs] at ehy33
  refine Za rfl (by simp [hO, hT8, ehy33, c24]; rfl) ?_
  refine Zd ?_
  by_cases c34 : y31.2 = y32.2
  ·skip
   rw [if_neg] at hr
   rotate_left
   ·simp [c24, eq_true c34]
   obtain ⟨z35, hz35, hr⟩ := bs hr
   obtain ⟨y36, hy36, hz35⟩ := bs hz35
   have ehy36 := Zmw hy36
   simp only [E9, R9, nf, nfs] at ehy36
   obtain rfl := Option.some.inj hz35
   by_cases c37 : y36 = true
   ·skip
    rw [if_neg] at hr
    rotate_left
    ·simp [c24, eq_true c34, c37]
    obtain ⟨z38, hz38, hr⟩ := bs hr
    obtain ⟨y39, hy39, hz38⟩ := bs hz38
    have ehy39 := Znt hy39
    simp only [E10, R10, nf, nfs] at ehy39
    obtain rfl := Option.some.inj hz38
    by_cases c40 : (decide (y33.2 = 0) == y39) = true
    ·skip
     rw [if_neg] at hr
     rotate_left
     ·simp [c24, eq_true c34, c37, c40]
     obtain ⟨z41, hz41, hr⟩ := bs hr
     by_cases c42 : y33.2 = 0
     ·skip
      have c40s42 := c40
      try simp [c42] at c40s42
      rw [if_pos] at hz41
      rotate_left
      ·simp [c24, eq_true c34, c37, c40, eq_true c42, c40s42]
      obtain ⟨z43, hz43, hz41⟩ := bs hz41
      obtain ⟨y44, hy44, hz43⟩ := bs hz43
      have ehy44 := Zmw hy44
      simp only [E9, R9, nf, nfs] at ehy44
      obtain rfl := Option.some.inj hz43
      obtain rfl := Option.some.inj hz41
      refine Za rfl (by simp [hO, hT9, ehy36, hT10, ehy39, ehy44, c24, eq_true c34, c37, c40, eq_true c42, c40s42]; rfl) ?_
      by_cases c45 : y44 = true
      ·skip
       rw [if_neg] at hr
       rotate_left
       ·simp [c24, eq_true c34, c37, c40, eq_true c42, c40s42, c45]
       refine Zf (by simp [bV, c24, eq_true c34, c37, c40, eq_true c42, c40s42, c45]) ?_
       refine Zg ?_
       refine Zd ?_
       refine Za rfl (by simp [c24, eq_true c34, c37, c40, eq_true c42, c40s42, c45]; rfl) ?_
       by_cases c46 : y31.2 = 0
       ·skip
        rw [if_neg (not_not_intro c46)] at hr
        refine Zf (by simp [bV, c24, eq_true c34, c37, c40, eq_true c42, c40s42, c45, eq_true c46]) ?_
        refine Zg ?_
        obtain ⟨y47, hy47, hr⟩ := bs hr
        have ehy47 := Zgz hy47
        simp only [E8, R8, nf, nfs] at ehy47
        refine Za rfl (by simp [hO, hT8, ehy47, c24, eq_true c34, c37, c40, eq_true c42, c40s42, c45, eq_true c46]; rfl) ?_
        obtain ⟨y48, hy48, hr⟩ := bs hr
        have ehy48 := Zgz hy48
        simp only [E8, R8, nf, nfs] at ehy48
        refine Za rfl (by simp [hO, hT8, ehy48, c24, eq_true c34, c37, c40, eq_true c42, c40s42, c45, eq_true c46]; rfl) ?_
        obtain ⟨y49, hy49, hr⟩ := bs hr
        have ehy49 := Zgz hy49
        simp only [E8, R8, nf, nfs] at ehy49
        refine Za rfl (by simp [hO, hT8, ehy49, c24, eq_true c34, c37, c40, eq_true c42, c40s42, c45, eq_true c46]; rfl) ?_
        refine Zd ?_
        refine Za rfl (by simp [c24, eq_true c34, c37, c40, eq_true c42, c40s42, c45, eq_true c46]; rfl) ?_
        by_cases c50 : y47.2 = 0
        ·skip
         rw [if_pos c50] at hr
         refine Ze (by simp [bV, c24, eq_true c34, c37, c40, eq_true c42, c40s42, c45, eq_true c46, eq_true c50]) ?_
         refine Zd ?_
         by_cases c51 : y48.2 = 0
         ·skip
          by_cases c52 : y49.2 = 0
          ·skip
           rw [if_pos] at hr
           rotate_left
           ·simp [c24, eq_true c34, c37, c40, eq_true c42, c40s42, c45, eq_true c46, eq_true c50, eq_true c51, eq_true c52]
           obtain ⟨z53, hz53, hr⟩ := bs hr
           obtain ⟨y54, hy54, hz53⟩ := bs hz53
           have ehy54 := Zmw hy54
           simp only [E9, R9, nf, nfs] at ehy54
           obtain rfl := Option.some.inj hz53
           refine Za rfl (by simp [hO, hT9, ehy54, c24, eq_true c34, c37, c40, eq_true c42, c40s42, c45, eq_true c46, eq_true c50, eq_true c51, eq_true c52]; rfl) ?_
           refine Zl ?_
           obtain rfl := Option.some.inj hr
           simp [Zi, hO, hT9, ehy54, c24, eq_true c34, c37, c40, eq_true c42, c40s42, c45, eq_true c46, eq_true c50, eq_true c51, eq_true c52]
          ·skip
           rw [if_neg] at hr
           rotate_left
           ·simp [c24, eq_true c34, c37, c40, eq_true c42, c40s42, c45, eq_true c46, eq_true c50, eq_true c51, c52]
           obtain ⟨z55, hz55, hr⟩ := bs hr
           obtain rfl := Option.some.inj hz55
           refine Za rfl (by simp [c24, eq_true c34, c37, c40, eq_true c42, c40s42, c45, eq_true c46, eq_true c50, eq_true c51, c52]; rfl) ?_
           refine Zl ?_
           obtain rfl := Option.some.inj hr
           simp [Zi, c24, eq_true c34, c37, c40, eq_true c42, c40s42, c45, eq_true c46, eq_true c50, eq_true c51, c52]
         ·skip
          rw [if_neg] at hr
          rotate_left
          ·simp [c24, eq_true c34, c37, c40, eq_true c42, c40s42, c45, eq_true c46, eq_true c50, c51]
          obtain ⟨z56, hz56, hr⟩ := bs hr
          obtain rfl := Option.some.inj hz56
          refine Za rfl (by simp [c24, eq_true c34, c37, c40, eq_true c42, c40s42, c45, eq_true c46, eq_true c50, c51]; rfl) ?_
          refine Zl ?_
          obtain rfl := Option.some.inj hr
          simp [Zi, c24, eq_true c34, c37, c40, eq_true c42, c40s42, c45, eq_true c46, eq_true c50, c51]
        ·skip
         rw [if_neg c50] at hr
         refine Zf (by simp [bV, c24, eq_true c34, c37, c40, eq_true c42, c40s42, c45, eq_true c46, c50]) ?_
         refine Zg ?_
         by_cases c57 : y48.2 = 0
         ·skip
          refine Za rfl (by simp [c24, eq_true c34, c37, c40, eq_true c42, c40s42, c45, eq_true c46, c50, eq_true c57]; rfl) ?_
          refine Zh ?_
          obtain rfl := Option.some.inj hr
          simp [Zi, c24, eq_true c34, c37, c40, eq_true c42, c40s42, c45, eq_true c46, c50, eq_true c57]
         ·skip
          refine Za rfl (by simp [c24, eq_true c34, c37, c40, eq_true c42, c40s42, c45, eq_true c46, c50, c57]; rfl) ?_
          refine Zh ?_
          obtain rfl := Option.some.inj hr
          simp [Zi, c24, eq_true c34, c37, c40, eq_true c42, c40s42, c45, eq_true c46, c50, c57]
       ·skip
        rw [if_pos c46] at hr
        refine Ze (by simp [bV, c24, eq_true c34, c37, c40, eq_true c42, c40s42, c45, c46]) ?_
        refine Zd ?_
        refine Za rfl (by simp [c24, eq_true c34, c37, c40, eq_true c42, c40s42, c45, c46]; rfl) ?_
        refine Zl ?_
        obtain rfl := Option.some.inj hr
        simp [Zi, c24, eq_true c34, c37, c40, eq_true c42, c40s42, c45, c46]
      ·skip
       rw [if_pos] at hr
       rotate_left
       ·simp [c24, eq_true c34, c37, c40, eq_true c42, c40s42, c45]
       refine Ze (by simp [bV, c24, eq_true c34, c37, c40, eq_true c42, c40s42, c45]) ?_
       refine Zd ?_
       refine Za rfl (by simp [c24, eq_true c34, c37, c40, eq_true c42, c40s42, c45]; rfl) ?_
       refine Zl ?_
       obtain rfl := Option.some.inj hr
       simp [Zi, c24, eq_true c34, c37, c40, eq_true c42, c40s42, c45]
     ·skip
      have c40s42 := c40
      try simp [c42] at c40s42
      rw [if_neg] at hz41
      rotate_left
      ·simp [c24, eq_true c34, c37, c40, c42, c40s42]
      obtain ⟨z58, hz58, hz41⟩ := bs hz41
      obtain rfl := Option.some.inj hz58
      obtain rfl := Option.some.inj hz41
      refine Za rfl (by simp [hO, hT9, ehy36, hT10, ehy39, c24, eq_true c34, c37, c40, c42, c40s42]; rfl) ?_
      rw [if_neg] at hr
      rotate_left
      ·simp [c24, eq_true c34, c37, c40, c42, c40s42]
      refine Zf (by simp [bV, c24, eq_true c34, c37, c40, c42, c40s42]) ?_
      refine Zg ?_
      refine Zd ?_
      refine Za rfl (by simp [c24, eq_true c34, c37, c40, c42, c40s42]; rfl) ?_
      by_cases c59 : y31.2 = 0
      ·skip
       rw [if_neg (not_not_intro c59)] at hr
       refine Zf (by simp [bV, c24, eq_true c34, c37, c40, c42, c40s42, eq_true c59]) ?_
       refine Zg ?_
       obtain ⟨y60, hy60, hr⟩ := bs hr
       have ehy60 := Zgz hy60
       simp only [E8, R8, nf, nfs] at ehy60
       refine Za rfl (by simp [hO, hT8, ehy60, c24, eq_true c34, c37, c40, c42, c40s42, eq_true c59]; rfl) ?_
       obtain ⟨y61, hy61, hr⟩ := bs hr
       have ehy61 := Zgz hy61
       simp only [E8, R8, nf, nfs] at ehy61
       refine Za rfl (by simp [hO, hT8, ehy61, c24, eq_true c34, c37, c40, c42, c40s42, eq_true c59]; rfl) ?_
       obtain ⟨y62, hy62, hr⟩ := bs hr
       have ehy62 := Zgz hy62
       simp only [E8, R8, nf, nfs] at ehy62
       refine Za rfl (by simp [hO, hT8, ehy62, c24, eq_true c34, c37, c40, c42, c40s42, eq_true c59]; rfl) ?_
       refine Zd ?_
       refine Za rfl (by simp [c24, eq_true c34, c37, c40, c42, c40s42, eq_true c59]; rfl) ?_
       by_cases c63 : y60.2 = 0
       ·skip
        rw [if_pos c63] at hr
        refine Ze (by simp [bV, c24, eq_true c34, c37, c40, c42, c40s42, eq_true c59, eq_true c63]) ?_
        refine Zd ?_
        by_cases c64 : y61.2 = 0
        ·skip
         by_cases c65 : y62.2 = 0
         ·skip
          rw [if_pos] at hr
          rotate_left
          ·simp [c24, eq_true c34, c37, c40, c42, c40s42, eq_true c59, eq_true c63, eq_true c64, eq_true c65]
          obtain ⟨z66, hz66, hr⟩ := bs hr
          obtain ⟨y67, hy67, hz66⟩ := bs hz66
          have ehy67 := Zmw hy67
          simp only [E9, R9, nf, nfs] at ehy67
          obtain rfl := Option.some.inj hz66
          refine Za rfl (by simp [hO, hT9, ehy67, c24, eq_true c34, c37, c40, c42, c40s42, eq_true c59, eq_true c63, eq_true c64, eq_true c65]; rfl) ?_
          refine Zl ?_
          obtain rfl := Option.some.inj hr
          simp [Zi, hO, hT9, ehy67, c24, eq_true c34, c37, c40, c42, c40s42, eq_true c59, eq_true c63, eq_true c64, eq_true c65]
         ·skip
          rw [if_neg] at hr
          rotate_left
          ·simp [c24, eq_true c34, c37, c40, c42, c40s42, eq_true c59, eq_true c63, eq_true c64, c65]
          obtain ⟨z68, hz68, hr⟩ := bs hr
          obtain rfl := Option.some.inj hz68
          refine Za rfl (by simp [c24, eq_true c34, c37, c40, c42, c40s42, eq_true c59, eq_true c63, eq_true c64, c65]; rfl) ?_
          refine Zl ?_
          obtain rfl := Option.some.inj hr
          simp [Zi, c24, eq_true c34, c37, c40, c42, c40s42, eq_true c59, eq_true c63, eq_true c64, c65]
        ·skip
         rw [if_neg] at hr
         rotate_left
         ·simp [c24, eq_true c34, c37, c40, c42, c40s42, eq_true c59, eq_true c63, c64]
         obtain ⟨z69, hz69, hr⟩ := bs hr
         obtain rfl := Option.some.inj hz69
         refine Za rfl (by simp [c24, eq_true c34, c37, c40, c42, c40s42, eq_true c59, eq_true c63, c64]; rfl) ?_
         refine Zl ?_
         obtain rfl := Option.some.inj hr
         simp [Zi, c24, eq_true c34, c37, c40, c42, c40s42, eq_true c59, eq_true c63, c64]
       ·skip
        rw [if_neg c63] at hr
        refine Zf (by simp [bV, c24, eq_true c34, c37, c40, c42, c40s42, eq_true c59, c63]) ?_
        refine Zg ?_
        by_cases c70 : y61.2 = 0
        ·skip
         refine Za rfl (by simp [c24, eq_true c34, c37, c40, c42, c40s42, eq_true c59, c63, eq_true c70]; rfl) ?_
         refine Zh ?_
         obtain rfl := Option.some.inj hr
         simp [Zi, c24, eq_true c34, c37, c40, c42, c40s42, eq_true c59, c63, eq_true c70]
        ·skip
         refine Za rfl (by simp [c24, eq_true c34, c37, c40, c42, c40s42, eq_true c59, c63, c70]; rfl) ?_
         refine Zh ?_
         obtain rfl := Option.some.inj hr
         simp [Zi, c24, eq_true c34, c37, c40, c42, c40s42, eq_true c59, c63, c70]
      ·skip
       rw [if_pos c59] at hr
       refine Ze (by simp [bV, c24, eq_true c34, c37, c40, c42, c40s42, c59]) ?_
       refine Zd ?_
       refine Za rfl (by simp [c24, eq_true c34, c37, c40, c42, c40s42, c59]; rfl) ?_
       refine Zl ?_
       obtain rfl := Option.some.inj hr
       simp [Zi, c24, eq_true c34, c37, c40, c42, c40s42, c59]
    ·skip
     rw [if_pos] at hr
     rotate_left
     ·simp [c24, eq_true c34, c37, c40]
     obtain ⟨z71, hz71, hr⟩ := bs hr
     obtain rfl := Option.some.inj hz71
     refine Za rfl (by simp [hO, hT9, ehy36, hT10, ehy39, c24, eq_true c34, c37, c40]; rfl) ?_
     rw [if_pos] at hr
     rotate_left
     ·simp [c24, eq_true c34, c37, c40]
     refine Ze (by simp [bV, c24, eq_true c34, c37, c40]) ?_
     refine Zd ?_
     refine Za rfl (by simp [c24, eq_true c34, c37, c40]; rfl) ?_
     refine Zl ?_
     obtain rfl := Option.some.inj hr
     simp [Zi, c24, eq_true c34, c37, c40]
   ·skip
    rw [if_pos] at hr
    rotate_left
    ·simp [c24, eq_true c34, c37]
    obtain ⟨z72, hz72, hr⟩ := bs hr
    obtain rfl := Option.some.inj hz72
    rw [if_pos] at hr
    rotate_left
    ·simp [c24, eq_true c34, c37]
    obtain ⟨z73, hz73, hr⟩ := bs hr
    obtain rfl := Option.some.inj hz73
    refine Za rfl (by simp [hO, hT9, ehy36, c24, eq_true c34, c37]; rfl) ?_
    rw [if_pos] at hr
    rotate_left
    ·simp [c24, eq_true c34, c37]
    refine Ze (by simp [bV, c24, eq_true c34, c37]) ?_
    refine Zd ?_
    refine Za rfl (by simp [c24, eq_true c34, c37]; rfl) ?_
    refine Zl ?_
    obtain rfl := Option.some.inj hr
    simp [Zi, c24, eq_true c34, c37]
  ·skip
   rw [if_pos] at hr
   rotate_left
   ·simp [c24, c34]
   obtain ⟨z74, hz74, hr⟩ := bs hr
   obtain rfl := Option.some.inj hz74
   rw [if_pos] at hr
   rotate_left
   ·simp [c24, c34]
   obtain ⟨z75, hz75, hr⟩ := bs hr
   obtain rfl := Option.some.inj hz75
   rw [if_pos] at hr
   rotate_left
   ·simp [c24, c34]
   obtain ⟨z76, hz76, hr⟩ := bs hr
   obtain rfl := Option.some.inj hz76
   refine Za rfl (by simp [c24, c34]; rfl) ?_
   rw [if_pos] at hr
   rotate_left
   ·simp [c24, c34]
   refine Ze (by simp [bV, c24, c34]) ?_
   refine Zd ?_
   refine Za rfl (by simp [c24, c34]; rfl) ?_
   refine Zl ?_
   obtain rfl := Option.some.inj hr
   simp [Zi, c24, c34]
 ·skip
  rw [if_pos c24] at hr
  refine Ze (by simp [bV, c24]) ?_
  refine Zd ?_
  refine Za rfl (by simp [c24]; rfl) ?_
  refine Zl ?_
  obtain rfl := Option.some.inj hr
  simp [Zi, c24]
end Go.Proofs.Ytbjhgolpnjokbaa
