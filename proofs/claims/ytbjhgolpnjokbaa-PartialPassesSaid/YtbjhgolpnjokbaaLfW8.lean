import Derived.Test.YtbjhgolpnjokbaaLfK
import Derived.Test.YtbjhgolpnjokbaaCode
namespace Go.Proofs.Ytbjhgolpnjokbaa
open Go.RowKit
open Go.Av
open Go.Lc
set_option maxRecDepth 100000
set_option linter.unusedSimpArgs false
set_option linter.unusedVariables false
set_option maxHeartbeats 4000000
variable {G : Glob}
def kp58 : Keep := fun i => if i = 3 then ⟨[3, 6, 7, 8], [14], [(3, none, 14, 1)]⟩ else ⟨[], [], []⟩
theorem w58 {T : Tab} (a0 : (List (Arr 32))) (x : (List Int)) (hr : Zb9 a0 = some x) : ∃ kp fl n, ZC tt T G kp fl n Try.f58 (E58 a0) = some (R58 a0 x) := by
 simp only [E58, R58]
 refine fnE (kp := kp58) (w := true) body58 (by simp) ?_
 unfold c58
 rw [Try.ntmps58]
 unfold Zb9 at hr
 refine Za rfl (by simp []; rfl) ?_
 refine Za rfl (by simp []; rfl) ?_
 refine Zd ?_
 refine Za rfl (by simp []; rfl) ?_
 refine Zj ?_
 refine Z2 (kq := ⟨[3, 6, 7, 8], [14], [(3, none, 14, 1)]⟩) (H := fun (s : Int × (List Int)) => match s with | (p7, p8) => (⟨(und 3 ++ ([.one (.ms 14 0 0 (p8.length) 1)] ++ (und 2 ++ ([.one (.slice .no (List.map (arC .u8) a0)), .one (.v (.int .i64 (a0.length : Int))), .one (.v (.int .i64 p7))] ++ (und 8)))) : List PV), ([(14, ⟨0, 1, Zk .u8 p8, false, true⟩)] : Boxes)⟩ : ASt)) (by kernel_rfl) hr (by simp [und, List.replicate, ]) ?_
 rintro ⟨p7, p8⟩ x18r hr18
 simp only [Zc5] at hr18
 unfold b58_1
 simp only [und, List.replicate, List.cons_append, List.nil_append]
 refine Za rfl (by simp []; rfl) ?_
 by_cases c19 : p7 < (a0.length : Int)
 ·skip
  have c19N := c19
  try simp at c19N
  first | have c19M : (_ = _) = True := eq_true c19N | have c19M := c19N
  rw [if_pos] at hr18
  rotate_left
  ·simp [c19, c19M]
  refine Ze (by simp [bV, c19, c19M]) ?_
  refine Zg ?_
  refine Zj ?_
  obtain ⟨x20, hx20, hr18⟩ := bs hr18
  obtain ⟨hx20a, hx20b⟩ := ZJ hx20
  have hx20c := Zz hx20b
  refine Za rfl (by simp [hx20a, hx20b, hx20c, c19, c19M]; rfl) ?_
  obtain ⟨_, u21, hr18⟩ := bs hr18
  have u21_0 := ZG u21
  have n1_u21_0 : p8.length + x20.l.length ≤ 140737488355328 := by omega
  have n2_u21_0 : p8.length + x20.l.length ≤ 9223372036854775807 := by omega
  have n1v_u21_0 := n1_u21_0
  try simp [Arr.hl] at n1v_u21_0
  have n2v_u21_0 := n2_u21_0
  try simp [Arr.hl] at n2v_u21_0
  refine ZM rfl (by simp [n1_u21_0, n2_u21_0, n1v_u21_0, n2v_u21_0, c19, c19M]; rfl) ?_
  simp only [pq, reduceCtorEq]
  refine ZM rfl (by simp [c19, c19M]; rfl) ?_
  obtain rfl := Option.some.inj hr18
  simp only [pq, reduceCtorEq]
  simp [und, List.replicate, Nat.add_assoc, c19, c19M]
 ·skip
  have c19N := c19
  try simp at c19N
  first | have c19M : (_ = _) = True := eq_true c19N | have c19M := c19N
  rw [if_neg] at hr18
  rotate_left
  ·simp [c19, c19M]
  refine Zf (by simp [bV, c19, c19M]) ?_
  refine ZD ?_
  obtain ⟨r22, q22, rfl⟩ := ms hr18
  simp only [pq, reduceCtorEq]
  rintro rfl
  try simp only [pq, reduceCtorEq]
  unfold Zja at q22
  refine Za rfl (by simp [c19, c19M]; rfl) ?_
  refine Zh ?_
  obtain rfl := Option.some.inj q22
  simp [Zi, c19, c19M, c19N]
def kp59 : Keep := fun i => if i = 3 then ⟨[1, 2, 3, 5], [1, 2, 3], []⟩ else ⟨[], [], []⟩
theorem w59 {T : Tab} (a0 : (Arr 4)) (x : (Arr 32)) (hr : Zaq a0 = some x) : ∃ kp fl n, ZC tt T G kp fl n Try.f59 (E59 a0) = some (R59 a0 x) := by
 simp only [E59, R59]
 refine fnE (kp := kp59) (w := false) body59 (by simp) ?_
 unfold c59
 rw [Try.ntmps59]
 unfold Zaq at hr
 refine Za rfl (by simp []; rfl) ?_
 refine Za rfl (by simp []; rfl) ?_
 refine Zd ?_
 refine Za rfl (by simp []; rfl) ?_
 refine Zj ?_
 refine Z2 (kq := ⟨[1, 2, 3, 5], [1, 2, 3], []⟩) (H := fun (s : Int × (Arr 32)) => match s with | (p8, p9) => (⟨(und 1 ++ ([.ptr 1 0 0 0 4, .ptr 2 0 0 0 32, .ptr 3 0 0 0 32] ++ (und 1 ++ ([.one (.v (.int .i64 p8))] ++ (und 17)))) : List PV), ([(1, ⟨0, 4, [arC .u64 a0], false, false⟩), (2, ⟨0, 32, [arC .u8 (zA 32)], false, false⟩), (3, ⟨0, 32, [arC .u8 p9], false, false⟩)] : Boxes)⟩ : ASt)) (by kernel_rfl) hr (by simp [und, List.replicate, ]) ?_
 rintro ⟨p8, p9⟩ x25r hr25
 simp only [Zb3] at hr25
 unfold b59_1
 simp only [und, List.replicate, List.cons_append, List.nil_append]
 refine Za rfl (by simp []; rfl) ?_
 by_cases c26 : p8 < 32
 ·skip
  rw [if_pos] at hr25
  rotate_left
  ·simp [c26]
  refine Ze (by simp [bV, c26]) ?_
  refine Zg ?_
  refine Zj ?_
  refine Za rfl (by simp [c26]; rfl) ?_
  obtain ⟨j27, hj27, hr25⟩ := bs hr25
  obtain ⟨j27a, j27b, j27c⟩ := YM hj27
  have j27d : j27 ≤ 3 := by omega
  have ar28 := ZcD (k := .u64) (a0) (i := j27) j27c
  have as29 := Zeq (k := .u64) (a0) (i := j27) j27c
  obtain ⟨_, u30, hr25⟩ := bs hr25
  have u30_0 := ZG u30
  obtain ⟨j31, hj31, hr25⟩ := bs hr25
  obtain ⟨j31a, j31b, j31c⟩ := YM hj31
  have j31d : j31 ≤ 31 := by omega
  have ap32 := ZcE (k := .u8) (p9) (i := j31) j31c (IntKind.u8.wrap ((a0.at j27).fdiv (2 ^ (min (IntKind.i64.wrap (56 - (IntKind.i64.wrap (((p8).tmod 8) * 8)))).toNat 64))))
  refine ZM rfl (by simp [j27a, j27b, j27c, j27d, ar28, as29, u30_0, j31a, j31b, j31c, j31d, ap32, c26]; rfl) ?_
  simp only [pq, reduceCtorEq]
  refine ZM rfl (by simp [c26]; rfl) ?_
  obtain rfl := Option.some.inj hr25
  simp only [pq, reduceCtorEq]
  simp [und, List.replicate, Nat.add_assoc, c26]
 ·skip
  rw [if_neg] at hr25
  rotate_left
  ·simp [c26]
  refine Zf (by simp [bV, c26]) ?_
  refine ZD ?_
  obtain ⟨r33, q33, rfl⟩ := ms hr25
  simp only [pq, reduceCtorEq]
  rintro rfl
  try simp only [pq, reduceCtorEq]
  unfold Zhv at q33
  refine Za rfl (by simp [c26]; rfl) ?_
  refine Zh ?_
  obtain rfl := Option.some.inj q33
  simp [Zi, c26]
def kp27 : Keep := fun i => ⟨[], [], []⟩
theorem w27 {T : Tab} (hO : T.own = fun _ => []) (hT58 : T 58 = some G58) (hT59 : T 59 = some G59) (a0 : Tapi_Signature) (x : (List Int)) (hr : Zaw a0 = some x) : ∃ kp fl n, ZC tt T G kp fl n Try.f27 (E27 a0) = some (R27 a0 x) := by
 simp only [E27, R27]
 refine fnE (kp := kp27) (w := true) body27 (by simp) ?_
 unfold c27
 rw [Try.ntmps27]
 unfold Zaw at hr
 refine Za rfl (by simp []; rfl) ?_
 obtain ⟨y4, hy4, hr⟩ := bs hr
 have ehy4 := Zp9 hy4
 simp only [E59, R59, nf, nfs] at ehy4
 obtain ⟨y5, hy5, hr⟩ := bs hr
 have ehy5 := Zp9 hy5
 simp only [E59, R59, nf, nfs] at ehy5
 obtain ⟨y6, hy6, hr⟩ := bs hr
 have ehy6 := ZsX hy6
 simp only [E58, R58, nf, nfs] at ehy6
 refine ZR rfl (by simp [hO, hT59, ehy4, ehy5, List.range, List.range.loop, hT58, ehy6]; first | exact ⟨rfl, rfl⟩ | rfl) (by kernel_rfl) ?_
 refine Zh ?_
 obtain rfl := Option.some.inj hr
 simp [Zi, hO, hT59, ehy4, ehy5, List.range, List.range.loop, hT58, ehy6]
def kp10 : Keep := fun i => if i = 4 then ⟨[1, 12, 13, 14], [1], []⟩ else ⟨[], [], []⟩
theorem w10 {T : Tab} (hO : T.own = fun _ => []) (hT22 : T 22 = some G22) (hT25 : T 25 = some G25) (hT26 : T 26 = some G26) (hT27 : T 27 = some G27) (a0 : Tapi_PartialTx) (x : Bool) (hr : YZ a0 = some x) : ∃ kp fl n, ZC tt T G kp fl n Try.f10 (E10 a0) = some (R10 a0 x) := by
 simp only [E10, R10]
 refine fnE (kp := kp10) (w := false) body10 (by simp) ?_
 unfold c10
 rw [Try.ntmps10]
 unfold YZ at hr
 refine Za rfl (by simp []; rfl) ?_
 refine Zd ?_
 obtain ⟨y28, hy28, hr⟩ := bs hr
 have ehy28 := ZsU hy28
 simp only [E25, R25, nf, nfs] at ehy28
 refine Za rfl (by simp [hO, hT25, ehy28]; rfl) ?_
 by_cases c29 : y28 = true
 ·skip
  rw [if_neg (not_not_intro c29)] at hr
  refine Zf (by simp [bV, c29]) ?_
  refine Zg ?_
  refine Zd ?_
  refine Za rfl (by simp [c29]; rfl) ?_
  refine Zj ?_
  refine Z2 (kq := ⟨[1, 12, 13, 14], [1], []⟩) (H := fun (s : Int) => match s with | p15 => (⟨(und 1 ++ ([.ptr 1 0 0 0 8] ++ (und 10 ++ ([.one (.slice .no (List.map ZX a0.2)), .one (.v (.int .i64 (a0.2.length : Int))), .one (.v (.int .i64 p15))] ++ (und 40)))) : List PV), ([(1, ⟨0, 8, [[.v (.int .u32 a0.1.1.1), .slice .no (List.map Zo a0.1.1.2.1), .slice .no (List.map Zm a0.1.1.2.2.1), .v (.int .u32 a0.1.1.2.2.2), .slice .no (List.map ZL a0.1.2.1), .v (.int .i64 a0.1.2.2.1), .v (.int .i64 a0.1.2.2.2), .slice .no (List.map ZX a0.2)]], false, false⟩)] : Boxes)⟩ : ASt)) (by kernel_rfl) hr (by simp [und, List.replicate, c29]) ?_
  rintro p15 x45r hr45
  simp only [ZaM] at hr45
  unfold b10_1
  simp only [und, List.replicate, List.cons_append, List.nil_append]
  refine Za rfl (by simp [c29]; rfl) ?_
  by_cases c46 : p15 < (a0.2.length : Int)
  ·skip
   have c46N := c46
   try simp at c46N
   first | have c46M : (_ = _) = True := eq_true c46N | have c46M := c46N
   rw [if_pos] at hr45
   rotate_left
   ·simp [c29, c46, c46M]
   refine Ze (by simp [bV, c29, c46, c46M]) ?_
   refine Zg ?_
   refine Zj ?_
   obtain ⟨x47, hx47, hr45⟩ := bs hr45
   obtain ⟨hx47a, hx47b⟩ := ZJ hx47
   have hx47c := Zz hx47b
   refine Za rfl (by simp [hx47a, hx47b, hx47c, c29, c46, c46M]; rfl) ?_
   refine Zd ?_
   by_cases c48 : x47.1 < 0
   ·skip
    refine Za rfl (by simp [c29, c46, c46M, c48]; rfl) ?_
    rw [if_pos] at hr45
    rotate_left
    ·simp [c29, c46, c46M, c48]
    refine Ze (by simp [bV, c29, c46, c46M, c48]) ?_
    refine Zd ?_
    refine Za rfl (by simp [c29, c46, c46M, c48]; rfl) ?_
    refine Zl ?_
    obtain rfl := Option.some.inj hr45
    simp only [pq, reduceCtorEq]
    rintro rfl
    simp [Zi, c29, c46, c46M, c48, c46N]
   ·skip
    refine Za rfl (by simp [c29, c46, c46M, c48]; rfl) ?_
    by_cases c49 : (a0.1.1.2.1.length : Int) ≤ x47.1
    ·skip
     have c49N := c49
     try simp at c49N
     first | have c49M : (_ = _) = True := eq_true c49N | have c49M := c49N
     rw [if_pos] at hr45
     rotate_left
     ·simp [c29, c46, c46M, c48, c49, c49M]
     refine Ze (by simp [bV, c29, c46, c46M, c48, c49, c49M]) ?_
     refine Zd ?_
     refine Za rfl (by simp [c29, c46, c46M, c48, c49, c49M]; rfl) ?_
     refine Zl ?_
     obtain rfl := Option.some.inj hr45
     simp only [pq, reduceCtorEq]
     rintro rfl
     simp [Zi, c29, c46, c46M, c48, c49, c49M, c46N, c49N]
    ·skip
     have c49N := c49
     try simp at c49N
     first | have c49M : (_ = _) = True := eq_true c49N | have c49M := c49N
     rw [if_neg] at hr45
     rotate_left
     ·simp [c29, c46, c46M, c48, c49, c49M]
     refine Zf (by simp [bV, c29, c46, c46M, c48, c49, c49M]) ?_
     refine Zg ?_
     refine Zd ?_
     obtain ⟨y50, hy50, hr45⟩ := bs hr45
     have ehy50 := ZsY hy50
     simp only [E27, R27, nf, nfs] at ehy50
     obtain ⟨y51, hy51, hr45⟩ := bs hr45
     have ehy51 := ZsW hy51
     simp only [E26, R26, nf, nfs] at ehy51
     refine Za rfl (by simp [hO, hT27, ehy50, hT26, ehy51, c29, c46, c46M, c48, c49, c49M]; rfl) ?_
     refine Zd ?_
     refine Za rfl (by simp [c29, c46, c46M, c48, c49, c49M]; rfl) ?_
     by_cases c52 : y51.2 = 0
     ·skip
      rw [if_neg (not_not_intro c52)] at hr45
      refine Zf (by simp [bV, c29, c46, c46M, c48, c49, c49M, eq_true c52]) ?_
      refine Zg ?_
      by_cases c53 : 0 < p15
      ·skip
       rw [if_pos] at hr45
       rotate_left
       ·simp [c29, c46, c46M, c48, c49, c49M, eq_true c52, c53]
       obtain ⟨z54, hz54, hr45⟩ := bs hr45
       obtain ⟨x55, hx55, hz54⟩ := bs hz54
       obtain ⟨hx55a, hx55b⟩ := ZJ hx55
       have hx55c := Zz hx55b
       obtain ⟨y56, hy56, hz54⟩ := bs hz54
       have ehy56 := Zp3 hy56
       simp only [E22, R22, nf, nfs] at ehy56
       obtain rfl := Option.some.inj hz54
       refine ZR rfl (by simp [hx55a, hx55b, hx55c, hO, hT22, ehy56, c29, c46, c46M, c48, c49, c49M, eq_true c52, c53]; first | exact ⟨rfl, rfl⟩ | rfl) (by kernel_rfl) ?_
       by_cases c57 : 0 ≤ y56
       ·skip
        rw [if_pos] at hr45
        rotate_left
        ·simp [c29, c46, c46M, c48, c49, c49M, eq_true c52, c53, c57]
        refine Zy (by simp [bV, c29, c46, c46M, c48, c49, c49M, eq_true c52, c53, c57]) ?_
        refine Za rfl (by simp [c29, c46, c46M, c48, c49, c49M, eq_true c52, c53, c57]; rfl) ?_
        refine Zh ?_
        obtain rfl := Option.some.inj hr45
        simp only [pq, reduceCtorEq]
        rintro rfl
        simp [Zi, c29, c46, c46M, c48, c49, c49M, eq_true c52, c53, c57, c46N, c49N]
       ·skip
        rw [if_neg] at hr45
        rotate_left
        ·simp [c29, c46, c46M, c48, c49, c49M, eq_true c52, c53, c57]
        refine ZI (by simp [bV, c29, c46, c46M, c48, c49, c49M, eq_true c52, c53, c57]) ?_
        refine Yb ?_
        simp only [pq, reduceCtorEq]
        refine ZM rfl (by simp [c29, c46, c46M, c48, c49, c49M, eq_true c52, c53, c57]; rfl) ?_
        obtain rfl := Option.some.inj hr45
        simp only [pq, reduceCtorEq]
        simp [und, List.replicate, Nat.add_assoc, c29, c46, c46M, c48, c49, c49M, eq_true c52, c53, c57]
      ·skip
       rw [if_neg] at hr45
       rotate_left
       ·simp [c29, c46, c46M, c48, c49, c49M, eq_true c52, c53]
       obtain ⟨z58, hz58, hr45⟩ := bs hr45
       obtain rfl := Option.some.inj hz58
       refine ZR rfl (by simp [c29, c46, c46M, c48, c49, c49M, eq_true c52, c53]; first | exact ⟨rfl, rfl⟩ | rfl) (by kernel_rfl) ?_
       rw [if_neg] at hr45
       rotate_left
       ·simp [c29, c46, c46M, c48, c49, c49M, eq_true c52, c53]
       refine ZI (by simp [bV, c29, c46, c46M, c48, c49, c49M, eq_true c52, c53]) ?_
       refine Yb ?_
       simp only [pq, reduceCtorEq]
       refine ZM rfl (by simp [c29, c46, c46M, c48, c49, c49M, eq_true c52, c53]; rfl) ?_
       obtain rfl := Option.some.inj hr45
       simp only [pq, reduceCtorEq]
       simp [und, List.replicate, Nat.add_assoc, c29, c46, c46M, c48, c49, c49M, eq_true c52, c53]
     ·skip
      rw [if_pos c52] at hr45
      refine Ze (by simp [bV, c29, c46, c46M, c48, c49, c49M, c52]) ?_
      refine Zd ?_
      refine Za rfl (by simp [c29, c46, c46M, c48, c49, c49M, c52]; rfl) ?_
      refine Zl ?_
      obtain rfl := Option.some.inj hr45
      simp only [pq, reduceCtorEq]
      rintro rfl
      simp [Zi, c29, c46, c46M, c48, c49, c49M, c52, c46N, c49N]
  ·skip
   have c46N := c46
   try simp at c46N
   first | have c46M : (_ = _) = True := eq_true c46N | have c46M := c46N
   rw [if_neg] at hr45
   rotate_left
   ·simp [c29, c46, c46M]
   refine Zf (by simp [bV, c29, c46, c46M]) ?_
   refine ZD ?_
   obtain ⟨r59, q59, rfl⟩ := ms hr45
   simp only [pq, reduceCtorEq]
   rintro rfl
   try simp only [pq, reduceCtorEq]
   unfold Lpartial_Valid_k1 at q59
   refine Za rfl (by simp [c29, c46, c46M]; rfl) ?_
   refine Zh ?_
   obtain rfl := Option.some.inj q59
   simp [Zi, c29, c46, c46M, c46N]
 ·skip
  rw [if_pos c29] at hr
  refine Ze (by simp [bV, c29]) ?_
  refine Zd ?_
  refine Za rfl (by simp [c29]; rfl) ?_
  refine Zl ?_
  obtain rfl := Option.some.inj hr
  simp [Zi, c29]
def kp40 : Keep := fun i => ⟨[], [], []⟩
theorem w40 {T : Tab} (a0 : (List Int)) (a1 : (List Int)) (x : Bool) (hr : X2 a0 a1 = some x) : ∃ kp fl n, ZC tt T G kp fl n Try.f40 (E40 (a0, a1)) = some (R40 (a0, a1) x) := by
 simp only [E40, R40]
 refine fnE (kp := kp40) (w := false) body40 (by simp) ?_
 unfold c40
 rw [Try.ntmps40]
 unfold X2 at hr
 refine Za rfl (by simp []; rfl) ?_
 refine Za rfl (by simp []; rfl) ?_
 refine Zh ?_
 obtain rfl := Option.some.inj hr
 simp [Zi, ]
def kp39_1 : Keep := fun i => if i = 4 then ⟨[1, 2, 15, 16, 17], [], []⟩ else ⟨[], [], []⟩
theorem ZtT {T : Tab} (hO : T.own = fun _ => []) (hT40 : T 40 = some G40) (a0 : (List (List Int))) (a1 : (List (List Int))) (x : Bool) (hr : ZH a0 a1 = some x) : ∃ kp fl n, ZC tt T G kp fl n Try.f39 (Zgv (a0, a1)) = some (ZjU (a0, a1) x) := by
 simp only [Zgv, ZjU]
 refine fnE (kp := kp39_1) (w := false) body39 (by simp) ?_
 unfold c39
 rw [Try.ntmps39]
 unfold ZH at hr
 refine Za rfl (by simp []; rfl) ?_
 refine Zd ?_
 refine Za rfl (by simp []; rfl) ?_
 by_cases c15 : (a0.length : Int) = (a1.length : Int)
 ·skip
  have c15N := c15
  try simp at c15N
  rw [if_neg (not_not_intro c15)] at hr
  refine Zf (by simp [bV, eq_true c15, eq_true c15N]) ?_
  refine Zg ?_
  refine Zd ?_
  refine Za rfl (by simp [eq_true c15, eq_true c15N]; rfl) ?_
  refine Zj ?_
  refine Z2 (kq := ⟨[1, 2, 15, 16, 17], [], []⟩) (H := fun (s : Int) => match s with | p8 => (⟨(und 1 ++ ([.one (.slice .no (List.map Yf a1)), .fn 40] ++ (und 12 ++ ([.one (.slice .no (List.map Yf a0)), .one (.v (.int .i64 (a0.length : Int))), .one (.v (.int .i64 p8))] ++ (und 14)))) : List PV), ([] : Boxes)⟩ : ASt)) (by kernel_rfl) hr (by simp [und, List.replicate, eq_true c15, eq_true c15N]) ?_
  rintro p8 x23r hr23
  simp only [Z8] at hr23
  unfold b39_1
  simp only [und, List.replicate, List.cons_append, List.nil_append]
  refine Za rfl (by simp [eq_true c15, eq_true c15N]; rfl) ?_
  by_cases c24 : p8 < (a0.length : Int)
  ·skip
   have c24N := c24
   try simp at c24N
   first | have c24M : (_ = _) = True := eq_true c24N | have c24M := c24N
   rw [if_pos] at hr23
   rotate_left
   ·simp [eq_true c15, eq_true c15N, c24, c24M]
   refine Ze (by simp [bV, eq_true c15, eq_true c15N, c24, c24M]) ?_
   refine Zg ?_
   refine Zj ?_
   obtain ⟨x25, hx25, hr23⟩ := bs hr23
   obtain ⟨hx25a, hx25b⟩ := ZJ hx25
   have hx25c := Zz hx25b
   refine Za rfl (by simp [hx25a, hx25b, hx25c, eq_true c15, eq_true c15N, c24, c24M]; rfl) ?_
   obtain ⟨x26, hx26, hr23⟩ := bs hr23
   obtain ⟨hx26a, hx26b⟩ := ZJ hx26
   have hx26c := Zz hx26b
   refine Za rfl (by simp [hx26a, hx26b, hx26c, eq_true c15, eq_true c15N, c24, c24M]; rfl) ?_
   obtain ⟨y27, hy27, hr23⟩ := bs hr23
   have ehy27 := Zqa hy27
   simp only [E40, R40, nf, nfs] at ehy27
   refine Za rfl (by simp [hO, hT40, ehy27, eq_true c15, eq_true c15N, c24, c24M]; rfl) ?_
   by_cases c28 : y27 = true
   ·skip
    rw [if_neg (not_not_intro c28)] at hr23
    refine ZI (by simp [bV, eq_true c15, eq_true c15N, c24, c24M, c28]) ?_
    refine Yb ?_
    simp only [pq, reduceCtorEq]
    refine ZM rfl (by simp [eq_true c15, eq_true c15N, c24, c24M, c28]; rfl) ?_
    obtain rfl := Option.some.inj hr23
    simp only [pq, reduceCtorEq]
    simp [und, List.replicate, Nat.add_assoc, eq_true c15, eq_true c15N, c24, c24M, c28]
   ·skip
    rw [if_pos c28] at hr23
    refine Zy (by simp [bV, eq_true c15, eq_true c15N, c24, c24M, c28]) ?_
    refine Za rfl (by simp [eq_true c15, eq_true c15N, c24, c24M, c28]; rfl) ?_
    refine Zh ?_
    obtain rfl := Option.some.inj hr23
    simp only [pq, reduceCtorEq]
    rintro rfl
    simp [Zi, eq_true c15, eq_true c15N, c24, c24M, c28, c24N]
  ·skip
   have c24N := c24
   try simp at c24N
   first | have c24M : (_ = _) = True := eq_true c24N | have c24M := c24N
   rw [if_neg] at hr23
   rotate_left
   ·simp [eq_true c15, eq_true c15N, c24, c24M]
   refine Zf (by simp [bV, eq_true c15, eq_true c15N, c24, c24M]) ?_
   refine ZD ?_
   obtain ⟨r29, q29, rfl⟩ := ms hr23
   simp only [pq, reduceCtorEq]
   rintro rfl
   try simp only [pq, reduceCtorEq]
   unfold Lslices_EqualFunc_of__byte_byte_byte_byte__bytes_Equal_k1 at q29
   refine Za rfl (by simp [eq_true c15, eq_true c15N, c24, c24M]; rfl) ?_
   refine Zh ?_
   obtain rfl := Option.some.inj q29
   simp [Zi, eq_true c15, eq_true c15N, c24, c24M, c24N]
 ·skip
  have c15N := c15
  try simp at c15N
  first | have c15M : (_ = _) = True := eq_true c15N | have c15M := c15N
  rw [if_pos c15] at hr
  refine Ze (by simp [bV, c15, c15M]) ?_
  refine Zd ?_
  refine Za rfl (by simp [c15, c15M]; rfl) ?_
  refine Zl ?_
  obtain rfl := Option.some.inj hr
  simp [Zi, c15, c15M, c15N]
def kp38 : Keep := fun i => ⟨[], [], []⟩
theorem w38 {T : Tab} (hO : T.own = fun _ => []) (hT39 : T 39 = some G39_1) (a0 : Tapi_Input) (a1 : Tapi_Input) (x : Bool) (hr : Y4 a0 a1 = some x) : ∃ kp fl n, ZC tt T G kp fl n Try.f38 (E38 (a0, a1)) = some (R38 (a0, a1) x) := by
 simp only [E38, R38]
 refine fnE (kp := kp38) (w := false) body38 (by simp) ?_
 unfold c38
 rw [Try.ntmps38]
 unfold Y4 at hr
 refine Za rfl (by simp []; rfl) ?_
 by_cases c3 : a0.1.1 = a1.1.1
 ·skip
  by_cases c4 : a0.1.2 = a1.1.2
  ·skip
   by_cases c5 : a0.2.1 = a1.2.1
   ·skip
    rw [if_pos] at hr
    rotate_left
    ·simp [eq_true c3, eq_true c4, eq_true c5]
    obtain ⟨z6, hz6, hr⟩ := bs hr
    obtain ⟨y7, hy7, hz6⟩ := bs hz6
    have ehy7 := Zq2 hy7
    simp only [Zgv, ZjU, nf, nfs] at ehy7
    obtain rfl := Option.some.inj hz6
    refine Za rfl (by simp [hO, hT39, ehy7, eq_true c3, eq_true c4, eq_true c5]; rfl) ?_
    refine Zh ?_
    obtain rfl := Option.some.inj hr
    simp [Zi, hO, hT39, ehy7, eq_true c3, eq_true c4, eq_true c5]
   ·skip
    rw [if_neg] at hr
    rotate_left
    ·simp [eq_true c3, eq_true c4, c5]
    obtain ⟨z8, hz8, hr⟩ := bs hr
    obtain rfl := Option.some.inj hz8
    refine Za rfl (by simp [eq_true c3, eq_true c4, c5]; rfl) ?_
    refine Zh ?_
    obtain rfl := Option.some.inj hr
    simp [Zi, eq_true c3, eq_true c4, c5]
  ·skip
   rw [if_neg] at hr
   rotate_left
   ·simp [eq_true c3, c4]
   obtain ⟨z9, hz9, hr⟩ := bs hr
   obtain rfl := Option.some.inj hz9
   refine Za rfl (by simp [eq_true c3, c4]; rfl) ?_
   refine Zh ?_
   obtain rfl := Option.some.inj hr
   simp [Zi, eq_true c3, c4]
 ·skip
  rw [if_neg] at hr
  rotate_left
  ·simp [c3]
  obtain ⟨z10, hz10, hr⟩ := bs hr
  obtain rfl := Option.some.inj hz10
  refine Za rfl (by simp [c3]; rfl) ?_
  refine Zh ?_
  obtain rfl := Option.some.inj hr
  simp [Zi, c3]
def kp42 : Keep := fun i => ⟨[], [], []⟩
theorem w42 {T : Tab} (hO : T.own = fun _ => []) (hT40 : T 40 = some G40) (a0 : Tapi_Output) (a1 : Tapi_Output) (x : Bool) (hr : YE a0 a1 = some x) : ∃ kp fl n, ZC tt T G kp fl n Try.f42 (E42 (a0, a1)) = some (R42 (a0, a1) x) := by
 simp only [E42, R42]
 refine fnE (kp := kp42) (w := false) body42 (by simp) ?_
 unfold c42
 rw [Try.ntmps42]
 unfold YE at hr
 refine Za rfl (by simp []; rfl) ?_
 by_cases c3 : a0.1 = a1.1
 ·skip
  rw [if_pos] at hr
  rotate_left
  ·simp [eq_true c3]
  obtain ⟨z4, hz4, hr⟩ := bs hr
  obtain ⟨y5, hy5, hz4⟩ := bs hz4
  have ehy5 := Zqa hy5
  simp only [E40, R40, nf, nfs] at ehy5
  obtain rfl := Option.some.inj hz4
  refine Za rfl (by simp [hO, hT40, ehy5, eq_true c3]; rfl) ?_
  refine Zh ?_
  obtain rfl := Option.some.inj hr
  simp [Zi, hO, hT40, ehy5, eq_true c3]
 ·skip
  rw [if_neg] at hr
  rotate_left
  ·simp [c3]
  obtain ⟨z6, hz6, hr⟩ := bs hr
  obtain rfl := Option.some.inj hz6
  refine Za rfl (by simp [c3]; rfl) ?_
  refine Zh ?_
  obtain rfl := Option.some.inj hr
  simp [Zi, c3]
def kp41 : Keep := fun i => ⟨[], [], []⟩
theorem w41 {T : Tab} (hO : T.own = fun _ => []) (hT42 : T 42 = some G42) (a0 : Tapi_Coin) (a1 : Tapi_Coin) (x : Bool) (hr : Y5 a0 a1 = some x) : ∃ kp fl n, ZC tt T G kp fl n Try.f41 (E41 (a0, a1)) = some (R41 (a0, a1) x) := by
 simp only [E41, R41]
 refine fnE (kp := kp41) (w := false) body41 (by simp) ?_
 unfold c41
 rw [Try.ntmps41]
 unfold Y5 at hr
 refine Za rfl (by simp []; rfl) ?_
 by_cases c3 : a0.1.1 = a1.1.1
 ·skip
  by_cases c4 : a0.1.2 = a1.1.2
  ·skip
   rw [if_pos] at hr
   rotate_left
   ·simp [eq_true c3, eq_true c4]
   obtain ⟨z5, hz5, hr⟩ := bs hr
   obtain ⟨y6, hy6, hz5⟩ := bs hz5
   have ehy6 := Zqb hy6
   simp only [E42, R42, nf, nfs] at ehy6
   obtain rfl := Option.some.inj hz5
   by_cases c7 : y6 = true
   ·skip
    by_cases c8 : a0.2.2.1 = a1.2.2.1
    ·skip
     refine Za rfl (by simp [hO, hT42, ehy6, eq_true c3, eq_true c4, c7, eq_true c8]; rfl) ?_
     refine Zh ?_
     obtain rfl := Option.some.inj hr
     simp [Zi, hO, hT42, ehy6, eq_true c3, eq_true c4, c7, eq_true c8]
    ·skip
     refine Za rfl (by simp [hO, hT42, ehy6, eq_true c3, eq_true c4, c7, c8]; rfl) ?_
     refine Zh ?_
     obtain rfl := Option.some.inj hr
     simp [Zi, hO, hT42, ehy6, eq_true c3, eq_true c4, c7, c8]
   ·skip
    refine Za rfl (by simp [hO, hT42, ehy6, eq_true c3, eq_true c4, c7]; rfl) ?_
    refine Zh ?_
    obtain rfl := Option.some.inj hr
    simp [Zi, hO, hT42, ehy6, eq_true c3, eq_true c4, c7]
  ·skip
   rw [if_neg] at hr
   rotate_left
   ·simp [eq_true c3, c4]
   obtain ⟨z9, hz9, hr⟩ := bs hr
   obtain rfl := Option.some.inj hz9
   refine Za rfl (by simp [eq_true c3, c4]; rfl) ?_
   refine Zh ?_
   obtain rfl := Option.some.inj hr
   simp [Zi, eq_true c3, c4]
 ·skip
  rw [if_neg] at hr
  rotate_left
  ·simp [c3]
  obtain ⟨z10, hz10, hr⟩ := bs hr
  obtain rfl := Option.some.inj hz10
  refine Za rfl (by simp [c3]; rfl) ?_
  refine Zh ?_
  obtain rfl := Option.some.inj hr
  simp [Zi, c3]
def kp43_2 : Keep := fun i => if i = 4 then ⟨[1, 2, 15, 16, 17], [], []⟩ else ⟨[], [], []⟩
theorem ZtU {T : Tab} (hO : T.own = fun _ => []) (hT38 : T 38 = some G38) (a0 : (List Tapi_Input)) (a1 : (List Tapi_Input)) (x : Bool) (hr : Zq a0 a1 = some x) : ∃ kp fl n, ZC tt T G kp fl n Try.f43 (Zgw (a0, a1)) = some (ZjV (a0, a1) x) := by
 simp only [Zgw, ZjV]
 refine fnE (kp := kp43_2) (w := false) body43 (by simp) ?_
 unfold c43
 rw [Try.ntmps43]
 unfold Zq at hr
 refine Za rfl (by simp []; rfl) ?_
 refine Zd ?_
 refine Za rfl (by simp []; rfl) ?_
 by_cases c15 : (a0.length : Int) = (a1.length : Int)
 ·skip
  have c15N := c15
  try simp at c15N
  rw [if_neg (not_not_intro c15)] at hr
  refine Zf (by simp [bV, eq_true c15, eq_true c15N]) ?_
  refine Zg ?_
  refine Zd ?_
  refine Za rfl (by simp [eq_true c15, eq_true c15N]; rfl) ?_
  refine Zj ?_
  refine Z2 (kq := ⟨[1, 2, 15, 16, 17], [], []⟩) (H := fun (s : Int) => match s with | p8 => (⟨(und 1 ++ ([.one (.slice .no (List.map Zo a1)), .fn 38] ++ (und 12 ++ ([.one (.slice .no (List.map Zo a0)), .one (.v (.int .i64 (a0.length : Int))), .one (.v (.int .i64 p8))] ++ (und 14)))) : List PV), ([] : Boxes)⟩ : ASt)) (by kernel_rfl) hr (by simp [und, List.replicate, eq_true c15, eq_true c15N]) ?_
  rintro p8 x23r hr23
  simp only [ZQ] at hr23
  unfold b43_1
  simp only [und, List.replicate, List.cons_append, List.nil_append]
  refine Za rfl (by simp [eq_true c15, eq_true c15N]; rfl) ?_
  by_cases c24 : p8 < (a0.length : Int)
  ·skip
   have c24N := c24
   try simp at c24N
   first | have c24M : (_ = _) = True := eq_true c24N | have c24M := c24N
   rw [if_pos] at hr23
   rotate_left
   ·simp [eq_true c15, eq_true c15N, c24, c24M]
   refine Ze (by simp [bV, eq_true c15, eq_true c15N, c24, c24M]) ?_
   refine Zg ?_
   refine Zj ?_
   obtain ⟨x25, hx25, hr23⟩ := bs hr23
   obtain ⟨hx25a, hx25b⟩ := ZJ hx25
   have hx25c := Zz hx25b
   refine Za rfl (by simp [hx25a, hx25b, hx25c, eq_true c15, eq_true c15N, c24, c24M]; rfl) ?_
   obtain ⟨x26, hx26, hr23⟩ := bs hr23
   obtain ⟨hx26a, hx26b⟩ := ZJ hx26
   have hx26c := Zz hx26b
   refine Za rfl (by simp [hx26a, hx26b, hx26c, eq_true c15, eq_true c15N, c24, c24M]; rfl) ?_
   obtain ⟨y27, hy27, hr23⟩ := bs hr23
   have ehy27 := ZsZ hy27
   simp only [E38, R38, nf, nfs] at ehy27
   refine Za rfl (by simp [hO, hT38, ehy27, eq_true c15, eq_true c15N, c24, c24M]; rfl) ?_
   by_cases c28 : y27 = true
   ·skip
    rw [if_neg (not_not_intro c28)] at hr23
    refine ZI (by simp [bV, eq_true c15, eq_true c15N, c24, c24M, c28]) ?_
    refine Yb ?_
    simp only [pq, reduceCtorEq]
    refine ZM rfl (by simp [eq_true c15, eq_true c15N, c24, c24M, c28]; rfl) ?_
    obtain rfl := Option.some.inj hr23
    simp only [pq, reduceCtorEq]
    simp [und, List.replicate, Nat.add_assoc, eq_true c15, eq_true c15N, c24, c24M, c28]
   ·skip
    rw [if_pos c28] at hr23
    refine Zy (by simp [bV, eq_true c15, eq_true c15N, c24, c24M, c28]) ?_
    refine Za rfl (by simp [eq_true c15, eq_true c15N, c24, c24M, c28]; rfl) ?_
    refine Zh ?_
    obtain rfl := Option.some.inj hr23
    simp only [pq, reduceCtorEq]
    rintro rfl
    simp [Zi, eq_true c15, eq_true c15N, c24, c24M, c28, c24N]
  ·skip
   have c24N := c24
   try simp at c24N
   first | have c24M : (_ = _) = True := eq_true c24N | have c24M := c24N
   rw [if_neg] at hr23
   rotate_left
   ·simp [eq_true c15, eq_true c15N, c24, c24M]
   refine Zf (by simp [bV, eq_true c15, eq_true c15N, c24, c24M]) ?_
   refine ZD ?_
   obtain ⟨r29, q29, rfl⟩ := ms hr23
   simp only [pq, reduceCtorEq]
   rintro rfl
   try simp only [pq, reduceCtorEq]
   unfold Lslices_EqualFunc_of__api_Input_api_Input_api_Input_api_Input__partial_samePlan_1_k1 at q29
   refine Za rfl (by simp [eq_true c15, eq_true c15N, c24, c24M]; rfl) ?_
   refine Zh ?_
   obtain rfl := Option.some.inj q29
   simp [Zi, eq_true c15, eq_true c15N, c24, c24M, c24N]
 ·skip
  have c15N := c15
  try simp at c15N
  first | have c15M : (_ = _) = True := eq_true c15N | have c15M := c15N
  rw [if_pos c15] at hr
  refine Ze (by simp [bV, c15, c15M]) ?_
  refine Zd ?_
  refine Za rfl (by simp [c15, c15M]; rfl) ?_
  refine Zl ?_
  obtain rfl := Option.some.inj hr
  simp [Zi, c15, c15M, c15N]
def kp44_3 : Keep := fun i => if i = 4 then ⟨[1, 2, 15, 16, 17], [], []⟩ else ⟨[], [], []⟩
theorem ZtV {T : Tab} (hO : T.own = fun _ => []) (hT42 : T 42 = some G42) (a0 : (List Tapi_Output)) (a1 : (List Tapi_Output)) (x : Bool) (hr : Zp a0 a1 = some x) : ∃ kp fl n, ZC tt T G kp fl n Try.f44 (Zgx (a0, a1)) = some (ZjW (a0, a1) x) := by
 simp only [Zgx, ZjW]
 refine fnE (kp := kp44_3) (w := false) body44 (by simp) ?_
 unfold c44
 rw [Try.ntmps44]
 unfold Zp at hr
 refine Za rfl (by simp []; rfl) ?_
 refine Zd ?_
 refine Za rfl (by simp []; rfl) ?_
 by_cases c15 : (a0.length : Int) = (a1.length : Int)
 ·skip
  have c15N := c15
  try simp at c15N
  rw [if_neg (not_not_intro c15)] at hr
  refine Zf (by simp [bV, eq_true c15, eq_true c15N]) ?_
  refine Zg ?_
  refine Zd ?_
  refine Za rfl (by simp [eq_true c15, eq_true c15N]; rfl) ?_
  refine Zj ?_
  refine Z2 (kq := ⟨[1, 2, 15, 16, 17], [], []⟩) (H := fun (s : Int) => match s with | p8 => (⟨(und 1 ++ ([.one (.slice .no (List.map Zm a1)), .fn 42] ++ (und 12 ++ ([.one (.slice .no (List.map Zm a0)), .one (.v (.int .i64 (a0.length : Int))), .one (.v (.int .i64 p8))] ++ (und 14)))) : List PV), ([] : Boxes)⟩ : ASt)) (by kernel_rfl) hr (by simp [und, List.replicate, eq_true c15, eq_true c15N]) ?_
  rintro p8 x23r hr23
  simp only [ZO] at hr23
  unfold b44_1
  simp only [und, List.replicate, List.cons_append, List.nil_append]
  refine Za rfl (by simp [eq_true c15, eq_true c15N]; rfl) ?_
  by_cases c24 : p8 < (a0.length : Int)
  ·skip
   have c24N := c24
   try simp at c24N
   first | have c24M : (_ = _) = True := eq_true c24N | have c24M := c24N
   rw [if_pos] at hr23
   rotate_left
   ·simp [eq_true c15, eq_true c15N, c24, c24M]
   refine Ze (by simp [bV, eq_true c15, eq_true c15N, c24, c24M]) ?_
   refine Zg ?_
   refine Zj ?_
   obtain ⟨x25, hx25, hr23⟩ := bs hr23
   obtain ⟨hx25a, hx25b⟩ := ZJ hx25
   have hx25c := Zz hx25b
   refine Za rfl (by simp [hx25a, hx25b, hx25c, eq_true c15, eq_true c15N, c24, c24M]; rfl) ?_
   obtain ⟨x26, hx26, hr23⟩ := bs hr23
   obtain ⟨hx26a, hx26b⟩ := ZJ hx26
   have hx26c := Zz hx26b
   refine Za rfl (by simp [hx26a, hx26b, hx26c, eq_true c15, eq_true c15N, c24, c24M]; rfl) ?_
   obtain ⟨y27, hy27, hr23⟩ := bs hr23
   have ehy27 := Zqb hy27
   simp only [E42, R42, nf, nfs] at ehy27
   refine Za rfl (by simp [hO, hT42, ehy27, eq_true c15, eq_true c15N, c24, c24M]; rfl) ?_
   by_cases c28 : y27 = true
   ·skip
    rw [if_neg (not_not_intro c28)] at hr23
    refine ZI (by simp [bV, eq_true c15, eq_true c15N, c24, c24M, c28]) ?_
    refine Yb ?_
    simp only [pq, reduceCtorEq]
    refine ZM rfl (by simp [eq_true c15, eq_true c15N, c24, c24M, c28]; rfl) ?_
    obtain rfl := Option.some.inj hr23
    simp only [pq, reduceCtorEq]
    simp [und, List.replicate, Nat.add_assoc, eq_true c15, eq_true c15N, c24, c24M, c28]
   ·skip
    rw [if_pos c28] at hr23
    refine Zy (by simp [bV, eq_true c15, eq_true c15N, c24, c24M, c28]) ?_
    refine Za rfl (by simp [eq_true c15, eq_true c15N, c24, c24M, c28]; rfl) ?_
    refine Zh ?_
    obtain rfl := Option.some.inj hr23
    simp only [pq, reduceCtorEq]
    rintro rfl
    simp [Zi, eq_true c15, eq_true c15N, c24, c24M, c28, c24N]
  ·skip
   have c24N := c24
   try simp at c24N
   first | have c24M : (_ = _) = True := eq_true c24N | have c24M := c24N
   rw [if_neg] at hr23
   rotate_left
   ·simp [eq_true c15, eq_true c15N, c24, c24M]
   refine Zf (by simp [bV, eq_true c15, eq_true c15N, c24, c24M]) ?_
   refine ZD ?_
   obtain ⟨r29, q29, rfl⟩ := ms hr23
   simp only [pq, reduceCtorEq]
   rintro rfl
   try simp only [pq, reduceCtorEq]
   unfold Lslices_EqualFunc_of__api_Output_api_Output_api_Output_api_Output__partial_sameOutput_k1 at q29
   refine Za rfl (by simp [eq_true c15, eq_true c15N, c24, c24M]; rfl) ?_
   refine Zh ?_
   obtain rfl := Option.some.inj q29
   simp [Zi, eq_true c15, eq_true c15N, c24, c24M, c24N]
 ·skip
  have c15N := c15
  try simp at c15N
  first | have c15M : (_ = _) = True := eq_true c15N | have c15M := c15N
  rw [if_pos c15] at hr
  refine Ze (by simp [bV, c15, c15M]) ?_
  refine Zd ?_
  refine Za rfl (by simp [c15, c15M]; rfl) ?_
  refine Zl ?_
  obtain rfl := Option.some.inj hr
  simp [Zi, c15, c15M, c15N]
def kp45_4 : Keep := fun i => if i = 4 then ⟨[1, 2, 15, 16, 17], [], []⟩ else ⟨[], [], []⟩
theorem ZtW {T : Tab} (hO : T.own = fun _ => []) (hT41 : T 41 = some G41) (a0 : (List Tapi_Coin)) (a1 : (List Tapi_Coin)) (x : Bool) (hr : Zt a0 a1 = some x) : ∃ kp fl n, ZC tt T G kp fl n Try.f45 (Zgy (a0, a1)) = some (ZjX (a0, a1) x) := by
 simp only [Zgy, ZjX]
 refine fnE (kp := kp45_4) (w := false) body45 (by simp) ?_
 unfold c45
 rw [Try.ntmps45]
 unfold Zt at hr
 refine Za rfl (by simp []; rfl) ?_
 refine Zd ?_
 refine Za rfl (by simp []; rfl) ?_
 by_cases c15 : (a0.length : Int) = (a1.length : Int)
 ·skip
  have c15N := c15
  try simp at c15N
  rw [if_neg (not_not_intro c15)] at hr
  refine Zf (by simp [bV, eq_true c15, eq_true c15N]) ?_
  refine Zg ?_
  refine Zd ?_
  refine Za rfl (by simp [eq_true c15, eq_true c15N]; rfl) ?_
  refine Zj ?_
  refine Z2 (kq := ⟨[1, 2, 15, 16, 17], [], []⟩) (H := fun (s : Int) => match s with | p8 => (⟨(und 1 ++ ([.one (.slice .no (List.map ZL a1)), .fn 41] ++ (und 12 ++ ([.one (.slice .no (List.map ZL a0)), .one (.v (.int .i64 (a0.length : Int))), .one (.v (.int .i64 p8))] ++ (und 14)))) : List PV), ([] : Boxes)⟩ : ASt)) (by kernel_rfl) hr (by simp [und, List.replicate, eq_true c15, eq_true c15N]) ?_
  rintro p8 x23r hr23
  simp only [ZS] at hr23
  unfold b45_1
  simp only [und, List.replicate, List.cons_append, List.nil_append]
  refine Za rfl (by simp [eq_true c15, eq_true c15N]; rfl) ?_
  by_cases c24 : p8 < (a0.length : Int)
  ·skip
   have c24N := c24
   try simp at c24N
   first | have c24M : (_ = _) = True := eq_true c24N | have c24M := c24N
   rw [if_pos] at hr23
   rotate_left
   ·simp [eq_true c15, eq_true c15N, c24, c24M]
   refine Ze (by simp [bV, eq_true c15, eq_true c15N, c24, c24M]) ?_
   refine Zg ?_
   refine Zj ?_
   obtain ⟨x25, hx25, hr23⟩ := bs hr23
   obtain ⟨hx25a, hx25b⟩ := ZJ hx25
   have hx25c := Zz hx25b
   refine Za rfl (by simp [hx25a, hx25b, hx25c, eq_true c15, eq_true c15N, c24, c24M]; rfl) ?_
   obtain ⟨x26, hx26, hr23⟩ := bs hr23
   obtain ⟨hx26a, hx26b⟩ := ZJ hx26
   have hx26c := Zz hx26b
   refine Za rfl (by simp [hx26a, hx26b, hx26c, eq_true c15, eq_true c15N, c24, c24M]; rfl) ?_
   obtain ⟨y27, hy27, hr23⟩ := bs hr23
   have ehy27 := Zs0 hy27
   simp only [E41, R41, nf, nfs] at ehy27
   refine Za rfl (by simp [hO, hT41, ehy27, eq_true c15, eq_true c15N, c24, c24M]; rfl) ?_
   by_cases c28 : y27 = true
   ·skip
    rw [if_neg (not_not_intro c28)] at hr23
    refine ZI (by simp [bV, eq_true c15, eq_true c15N, c24, c24M, c28]) ?_
    refine Yb ?_
    simp only [pq, reduceCtorEq]
    refine ZM rfl (by simp [eq_true c15, eq_true c15N, c24, c24M, c28]; rfl) ?_
    obtain rfl := Option.some.inj hr23
    simp only [pq, reduceCtorEq]
    simp [und, List.replicate, Nat.add_assoc, eq_true c15, eq_true c15N, c24, c24M, c28]
   ·skip
    rw [if_pos c28] at hr23
    refine Zy (by simp [bV, eq_true c15, eq_true c15N, c24, c24M, c28]) ?_
    refine Za rfl (by simp [eq_true c15, eq_true c15N, c24, c24M, c28]; rfl) ?_
    refine Zh ?_
    obtain rfl := Option.some.inj hr23
    simp only [pq, reduceCtorEq]
    rintro rfl
    simp [Zi, eq_true c15, eq_true c15N, c24, c24M, c28, c24N]
  ·skip
   have c24N := c24
   try simp at c24N
   first | have c24M : (_ = _) = True := eq_true c24N | have c24M := c24N
   rw [if_neg] at hr23
   rotate_left
   ·simp [eq_true c15, eq_true c15N, c24, c24M]
   refine Zf (by simp [bV, eq_true c15, eq_true c15N, c24, c24M]) ?_
   refine ZD ?_
   obtain ⟨r29, q29, rfl⟩ := ms hr23
   simp only [pq, reduceCtorEq]
   rintro rfl
   try simp only [pq, reduceCtorEq]
   unfold Lslices_EqualFunc_of__api_Coin_api_Coin_api_Coin_api_Coin__partial_samePlan_2_k1 at q29
   refine Za rfl (by simp [eq_true c15, eq_true c15N, c24, c24M]; rfl) ?_
   refine Zh ?_
   obtain rfl := Option.some.inj q29
   simp [Zi, eq_true c15, eq_true c15N, c24, c24M, c24N]
 ·skip
  have c15N := c15
  try simp at c15N
  first | have c15M : (_ = _) = True := eq_true c15N | have c15M := c15N
  rw [if_pos c15] at hr
  refine Ze (by simp [bV, c15, c15M]) ?_
  refine Zd ?_
  refine Za rfl (by simp [c15, c15M]; rfl) ?_
  refine Zl ?_
  obtain rfl := Option.some.inj hr
  simp [Zi, c15, c15M, c15N]
end Go.Proofs.Ytbjhgolpnjokbaa
