import Derived.Test.YtbjhgolpnjokbaaGreatLfK
import Derived.Test.YtbjhgolpnjokbaaGreatCode
import Derived.Test.YtbjhgolpnjokbaaGreatBl
namespace Go.Proofs.YtbjhgolpnjokbaaGreat
open Go.RowKit
open Go.Av
open Go.Lc
set_option maxRecDepth 100000
set_option linter.unusedSimpArgs false
set_option linter.unusedVariables false
set_option maxHeartbeats 4000000
variable {G : Glob}
def kp118 : Keep := fun i => if i = 3 then ⟨[0, 5, 9, 10], [8], []⟩ else ⟨[], [], []⟩
theorem w118 {T : Tab} (a0 : Int) (a1 : Int) (x : (List Int)) (hr : YA a0 a1 = some x) : ∃ kp fl n, Zs tt T G kp fl n Tryz.f118 (Zgb (a0, a1)) = some (Ziz (a0, a1) x) := by
 simp only [Zgb, Ziz]
 refine fnE (kp := kp118) (w := true) body118 (by simp) ?_
 unfold c118
 rw [Tryz.ntmps118]
 unfold YA at hr
 refine Za rfl (by simp []; rfl) ?_
 obtain ⟨_, u14, hr⟩ := bs hr
 obtain ⟨u14_0, u14_1⟩ := ZE u14
 have mf15 : (a1).toNat ≤ 140737488355328 := by omega
 have mf16 : (a1).toNat ≤ 9223372036854775807 := by omega
 have mf17 : 0 ≤ a1 := by omega
 refine Za rfl (by simp [u14_0, u14_1, mf15, mf16, mf17]; rfl) ?_
 refine Zb ?_
 refine Za rfl (by simp []; rfl) ?_
 refine Zh ?_
 refine ZJ (kq := ⟨[0, 5, 9, 10], [8], []⟩) (H := fun (s : Int × (List Int)) => match s with | (p8, p9) => (⟨([.one (.v (.int .u64 a0))] ++ (und 4 ++ ([.one (.ms 8 0 0 (p9.length) 1)] ++ (und 3 ++ ([.one (.v (.int .i64 a1)), .one (.v (.int .i64 p8))] ++ (und 12))))) : List PV), ([(8, ⟨0, 1, Zk .u8 p9, false, true⟩)] : Boxes)⟩ : ASt)) (by kernel_rfl) hr (by simp [und, List.replicate, ]) ?_
 rintro ⟨p8, p9⟩ x23r hr23
 simp only [ZaY] at hr23
 unfold b118_1
 simp only [und, List.replicate, List.cons_append, List.nil_append]
 refine Za rfl (by simp []; rfl) ?_
 by_cases c24 : p8 < a1
 ·skip
  rw [if_pos] at hr23
  rotate_left
  ·simp [c24]
  refine Zd (by simp [bV, c24]) ?_
  refine Zg ?_
  refine Zh ?_
  refine Za rfl (by simp [c24]; rfl) ?_
  obtain ⟨_, u25, hr23⟩ := bs hr23
  have u25_0 := ZE u25
  obtain ⟨j26, hj26, hr23⟩ := bs hr23
  obtain ⟨j26a, j26b, j26c⟩ := Z4 hj26
  refine Zu rfl (by simp [u25_0, j26a, j26b, j26c, c24]; rfl) ?_
  simp only [pq, reduceCtorEq]
  refine Zu rfl (by simp [c24]; rfl) ?_
  obtain rfl := Option.some.inj hr23
  simp only [pq, reduceCtorEq]
  simp [und, List.replicate, Nat.add_assoc, c24]
 ·skip
  rw [if_neg] at hr23
  rotate_left
  ·simp [c24]
  refine Ze (by simp [bV, c24]) ?_
  refine Zq ?_
  obtain ⟨r27, q27, rfl⟩ := ms hr23
  simp only [pq, reduceCtorEq]
  rintro rfl
  try simp only [pq, reduceCtorEq]
  unfold ZdU at q27
  refine Za rfl (by simp [c24]; rfl) ?_
  refine Zi ?_
  obtain rfl := Option.some.inj q27
  simp [Zj, c24]
def kp107 : Keep := fun i => ⟨[], [], []⟩
theorem w107 {T : Tab} (hO : T.own = fun _ => []) (hT117 : T 117 = some G117) (hT118 : T 118 = some G118) (a0 : (List Int)) (a1 : Int) (x : (List Int)) (hr : Ys a0 a1 = some x) : ∃ kp fl n, Zs tt T G kp fl n Tryz.f107 (ZeW (a0, a1)) = some (Zgx (a0, a1) x) := by
 simp only [ZeW, Zgx]
 refine fnE (kp := kp107) (w := true) body107 (by simp) ?_
 unfold c107
 rw [Tryz.ntmps107]
 unfold Ys at hr
 refine Za rfl (by simp []; rfl) ?_
 obtain ⟨y3, hy3, hr⟩ := bs hr
 have ehy3 := Zks hy3
 simp only [Zgb, Ziz, nf, nfs] at ehy3
 obtain ⟨y4, hy4, hr⟩ := bs hr
 have ehy4 := Zdn hy4
 simp only [Zc4, Zez, nf, nfs] at ehy4
 refine Za rfl (by simp [hO, hT118, ehy3, hT117, ehy4]; rfl) ?_
 refine Zi ?_
 obtain rfl := Option.some.inj hr
 simp [Zj, hO, hT118, ehy3, hT117, ehy4]
def kp110 : Keep := fun i => ⟨[], [], []⟩
theorem w110 {T : Tab} (hO : T.own = fun _ => []) (hT117 : T 117 = some G117) (hT118 : T 118 = some G118) (a0 : (List Int)) (a1 : Int) (x : (List Int)) (hr : YO a0 a1 = some x) : ∃ kp fl n, Zs tt T G kp fl n Tryz.f110 (Zgy (a0, a1)) = some (Zjz (a0, a1) x) := by
 simp only [Zgy, Zjz]
 refine fnE (kp := kp110) (w := true) body110 (by simp) ?_
 unfold c110
 rw [Tryz.ntmps110]
 unfold YO at hr
 refine Za rfl (by simp []; rfl) ?_
 obtain ⟨y3, hy3, hr⟩ := bs hr
 have ehy3 := Zks hy3
 simp only [Zgb, Ziz, nf, nfs] at ehy3
 obtain ⟨y4, hy4, hr⟩ := bs hr
 have ehy4 := Zdn hy4
 simp only [Zc4, Zez, nf, nfs] at ehy4
 refine Za rfl (by simp [hO, hT118, ehy3, hT117, ehy4]; rfl) ?_
 refine Zi ?_
 obtain rfl := Option.some.inj hr
 simp [Zj, hO, hT118, ehy3, hT117, ehy4]
def kp119 : Keep := fun i => ⟨[], [], []⟩
theorem w119 {T : Tab} (hO : T.own = fun _ => []) (hT117 : T 117 = some G117) (hT118 : T 118 = some G118) (a0 : (List Int)) (a1 : Int) (x : (List Int)) (hr : Y4 a0 a1 = some x) : ∃ kp fl n, Zs tt T G kp fl n Tryz.f119 (Zht (a0, a1)) = some (Zkt (a0, a1) x) := by
 simp only [Zht, Zkt]
 refine fnE (kp := kp119) (w := true) body119 (by simp) ?_
 unfold c119
 rw [Tryz.ntmps119]
 unfold Y4 at hr
 refine Za rfl (by simp []; rfl) ?_
 obtain ⟨y3, hy3, hr⟩ := bs hr
 have ehy3 := Zks hy3
 simp only [Zgb, Ziz, nf, nfs] at ehy3
 obtain ⟨y4, hy4, hr⟩ := bs hr
 have ehy4 := Zdn hy4
 simp only [Zc4, Zez, nf, nfs] at ehy4
 refine Za rfl (by simp [hO, hT118, ehy3, hT117, ehy4]; rfl) ?_
 refine Zi ?_
 obtain rfl := Option.some.inj hr
 simp [Zj, hO, hT118, ehy3, hT117, ehy4]
def kp108 : Keep := fun i => ⟨[], [], []⟩
theorem w108 {T : Tab} (hO : T.own = fun _ => []) (hT107 : T 107 = some G107) (hT110 : T 110 = some G110) (hT117 : T 117 = some G117) (hT119 : T 119 = some G119) (a0 : (List Int)) (a1 : Int) (x : (List Int)) (hr : Yv a0 a1 = some x) : ∃ kp fl n, Zs tt T G kp fl n Tryz.f108 (Zfv (a0, a1)) = some (Zhu (a0, a1) x) := by
 simp only [Zfv, Zhu]
 refine fnE (kp := kp108) (w := true) body108 (by simp) ?_
 unfold c108
 rw [Tryz.ntmps108]
 unfold Yv at hr
 refine Za rfl (by simp []; rfl) ?_
 refine Zh ?_
 refine Za rfl (by simp []; rfl) ?_
 by_cases c8 : a1 < 253
 ·skip
  rw [if_pos c8] at hr
  refine Zp (by simp [bV, c8]) ?_
  obtain ⟨y9, hy9, hr⟩ := bs hr
  have ehy9 := Zdn hy9
  simp only [Zc4, Zez, nf, nfs] at ehy9
  refine Za rfl (by simp [hO, hT117, ehy9, c8]; rfl) ?_
  refine Zi ?_
  obtain rfl := Option.some.inj hr
  simp [Zj, hO, hT117, ehy9, c8]
 ·skip
  rw [if_neg c8] at hr
  refine Zw (by simp [bV, c8]) ?_
  refine Za rfl (by simp [c8]; rfl) ?_
  by_cases c10 : a1 < 65536
  ·skip
   rw [if_pos c10] at hr
   refine Zp (by simp [bV, c8, c10]) ?_
   obtain ⟨y11, hy11, hr⟩ := bs hr
   have ehy11 := Zdn hy11
   simp only [Zc4, Zez, nf, nfs] at ehy11
   obtain ⟨y12, hy12, hr⟩ := bs hr
   have ehy12 := ZqH hy12
   simp only [Zht, Zkt, nf, nfs] at ehy12
   refine Za rfl (by simp [hO, hT117, ehy11, hT119, ehy12, c8, c10]; rfl) ?_
   refine Zi ?_
   obtain rfl := Option.some.inj hr
   simp [Zj, hO, hT117, ehy11, hT119, ehy12, c8, c10]
  ·skip
   rw [if_neg c10] at hr
   refine Zw (by simp [bV, c8, c10]) ?_
   refine Za rfl (by simp [c8, c10]; rfl) ?_
   by_cases c13 : a1 < 4294967296
   ·skip
    rw [if_pos c13] at hr
    refine Zp (by simp [bV, c8, c10, c13]) ?_
    obtain ⟨y14, hy14, hr⟩ := bs hr
    have ehy14 := Zdn hy14
    simp only [Zc4, Zez, nf, nfs] at ehy14
    obtain ⟨y15, hy15, hr⟩ := bs hr
    have ehy15 := ZgU hy15
    simp only [ZeW, Zgx, nf, nfs] at ehy15
    refine Za rfl (by simp [hO, hT117, ehy14, hT107, ehy15, c8, c10, c13]; rfl) ?_
    refine Zi ?_
    obtain rfl := Option.some.inj hr
    simp [Zj, hO, hT117, ehy14, hT107, ehy15, c8, c10, c13]
   ·skip
    rw [if_neg c13] at hr
    refine Zw (by simp [bV, c8, c10, c13]) ?_
    refine ZU ?_
    simp only [pq, reduceCtorEq]
    obtain ⟨y16, hy16, hr⟩ := bs hr
    have ehy16 := Zdn hy16
    simp only [Zc4, Zez, nf, nfs] at ehy16
    obtain ⟨y17, hy17, hr⟩ := bs hr
    have ehy17 := Zm1 hy17
    simp only [Zgy, Zjz, nf, nfs] at ehy17
    refine Za rfl (by simp [hO, hT117, ehy16, hT110, ehy17, c8, c10, c13]; rfl) ?_
    refine Zi ?_
    obtain rfl := Option.some.inj hr
    simp [Zj, hO, hT117, ehy16, hT110, ehy17, c8, c10, c13]
def kp120 : Keep := fun i => ⟨[], [], []⟩
theorem w120 {T : Tab} (hO : T.own = fun _ => []) (hT117 : T 117 = some G117) (a0 : (List Int)) (a1 : (Arr 32)) (x : (List Int)) (hr : YQ a0 a1 = some x) : ∃ kp fl n, Zs tt T G kp fl n Tryz.f120 (Zhv (a0, a1)) = some (Zku (a0, a1) x) := by
 simp only [Zhv, Zku]
 refine fnE (kp := kp120) (w := true) body120 (by simp) ?_
 unfold c120
 rw [Tryz.ntmps120]
 unfold YQ at hr
 refine Za rfl (by simp []; rfl) ?_
 obtain ⟨y2, hy2, hr⟩ := bs hr
 have ehy2 := Zdn hy2
 simp only [Zc4, Zez, nf, nfs] at ehy2
 refine Za rfl (by simp [hO, hT117, ehy2]; rfl) ?_
 refine Zi ?_
 obtain rfl := Option.some.inj hr
 simp [Zj, hO, hT117, ehy2]
def kp109 : Keep := fun i => ⟨[], [], []⟩
theorem w109 {T : Tab} (hO : T.own = fun _ => []) (hT107 : T 107 = some G107) (hT120 : T 120 = some G120) (a0 : Tapi_OutPoint) (x : (List Int)) (hr : ZbY a0 = some x) : ∃ kp fl n, Zs tt T G kp fl n Tryz.f109 (Zhw a0) = some (Zkv a0 x) := by
 simp only [Zhw, Zkv]
 refine fnE (kp := kp109) (w := true) body109 (by simp) ?_
 unfold c109
 rw [Tryz.ntmps109]
 unfold ZbY at hr
 refine Za rfl (by simp []; rfl) ?_
 obtain ⟨y3, hy3, hr⟩ := bs hr
 have ehy3 := ZqI hy3
 simp only [Zhv, Zku, nf, nfs] at ehy3
 obtain ⟨y4, hy4, hr⟩ := bs hr
 have ehy4 := ZgU hy4
 simp only [ZeW, Zgx, nf, nfs] at ehy4
 refine ZB rfl (by simp [hO, hT120, ehy3, hT107, ehy4]; first | exact ⟨rfl, rfl⟩ | rfl) (by kernel_rfl) ?_
 refine Zi ?_
 obtain rfl := Option.some.inj hr
 simp [Zj, hO, hT120, ehy3, hT107, ehy4]
def kp111 : Keep := fun i => ⟨[], [], []⟩
theorem w111 {T : Tab} (hO : T.own = fun _ => []) (hT108 : T 108 = some G108) (hT117 : T 117 = some G117) (a0 : (List Int)) (a1 : (List Int)) (x : (List Int)) (hr : YC a0 a1 = some x) : ∃ kp fl n, Zs tt T G kp fl n Tryz.f111 (Zgz (a0, a1)) = some (ZjA (a0, a1) x) := by
 simp only [Zgz, ZjA]
 refine fnE (kp := kp111) (w := true) body111 (by simp) ?_
 unfold c111
 rw [Tryz.ntmps111]
 unfold YC at hr
 refine Za rfl (by simp []; rfl) ?_
 obtain ⟨y3, hy3, hr⟩ := bs hr
 have ehy3 := ZiN hy3
 simp only [Zfv, Zhu, nf, nfs] at ehy3
 obtain ⟨y4, hy4, hr⟩ := bs hr
 have ehy4 := Zdn hy4
 simp only [Zc4, Zez, nf, nfs] at ehy4
 refine Za rfl (by simp [hO, hT108, ehy3, hT117, ehy4]; rfl) ?_
 refine Zi ?_
 obtain rfl := Option.some.inj hr
 simp [Zj, hO, hT108, ehy3, hT117, ehy4]
def kp103 : Keep := fun i => if i = 4 then ⟨[1, 2, 5, 25, 26, 27], [2, 16], []⟩ else if i = 11 then ⟨[1, 2, 5, 50, 51, 52], [2, 16], []⟩ else if i = 20 then ⟨[5, 77, 78, 79], [16], []⟩ else if i = 24 then ⟨[5, 77, 78, 79, 91, 92, 93], [16], []⟩ else ⟨[], [], []⟩
theorem w103 {T : Tab} (hO : T.own = fun _ => []) (hT107 : T 107 = some G107) (hT108 : T 108 = some G108) (hT109 : T 109 = some G109) (hT110 : T 110 = some G110) (hT111 : T 111 = some G111) (a0 : Tapi_Tx) (a1 : Bool) (x : (List Int)) (hr : Zbm a0 a1 = some x) : ∃ kp fl n, Zs tt T G kp fl n Tryz.f103 (Zhx (a0, a1)) = some (Zkw (a0, a1) x) := by
 simp only [Zhx, Zkw]
 refine fnE (kp := kp103) (w := true) body103 (by simp) ?_
 unfold c103
 rw [Tryz.ntmps103]
 unfold Zbm at hr
 refine Za rfl (by simp [Nat.add_assoc, ]; rfl) ?_
 obtain ⟨y127, hy127, hr⟩ := bs hr
 have ehy127 := ZgU hy127
 simp only [ZeW, Zgx, nf, nfs] at ehy127
 refine Za rfl (by simp [Nat.add_assoc, hO, hT107, ehy127]; rfl) ?_
 obtain ⟨y128, hy128, hr⟩ := bs hr
 have ehy128 := ZiN hy128
 simp only [Zfv, Zhu, nf, nfs] at ehy128
 obtain ⟨_, u129, hr⟩ := bs hr
 have u129_0 := ZE u129
 have n1_u129_0 : y127.length + y128.length ≤ 140737488355328 := by omega
 have n2_u129_0 : y127.length + y128.length ≤ 9223372036854775807 := by omega
 refine Za rfl (by simp [Nat.add_assoc, hO, hT108, ehy128, n1_u129_0, n2_u129_0]; rfl) ?_
 refine Zb ?_
 refine Za rfl (by simp [Nat.add_assoc, ]; rfl) ?_
 refine Zh ?_
 refine ZJ (kq := ⟨[1, 2, 5, 25, 26, 27], [2, 16], []⟩) (H := fun (s : Int × (List Int)) => match s with | (p16, p17) => (⟨(und 1 ++ ([.one (.v (.bool a1)), .ptr 2 0 0 0 4] ++ (und 2 ++ ([.one (.ms 16 0 0 (p17.length) 1)] ++ (und 19 ++ ([.one (.slice .no (List.map Zm a0.2.1)), .one (.v (.int .i64 (a0.2.1.length : Int))), .one (.v (.int .i64 p16))] ++ (und 76)))))) : List PV), ([(2, ⟨0, 4, [[.v (.int .u32 a0.1), .slice .no (List.map Zm a0.2.1), .slice .no (List.map Zl a0.2.2.1), .v (.int .u32 a0.2.2.2)]], false, false⟩), (16, ⟨0, 1, Zk .u8 p17, false, true⟩)] : Boxes)⟩ : ASt)) (by kernel_rfl) hr (by simp [Nat.add_assoc, und, List.replicate, ]) ?_
 rintro ⟨p16, p17⟩ x138r hr138
 simp only [Zcn] at hr138
 unfold b103_1
 simp only [und, List.replicate, List.cons_append, List.nil_append]
 refine Za rfl (by simp [Nat.add_assoc, ]; rfl) ?_
 by_cases c139 : p16 < (a0.2.1.length : Int)
 ·skip
  have c139N := c139
  try simp at c139N
  first | have c139M : (_ = _) = True := eq_true c139N | have c139M := c139N
  rw [if_pos] at hr138
  rotate_left
  ·simp [Nat.add_assoc, c139, c139M]
  refine Zd (by simp [Nat.add_assoc, bV, c139, c139M]) ?_
  refine Zg ?_
  refine Zh ?_
  obtain ⟨x140, hx140, hr138⟩ := bs hr138
  obtain ⟨hx140a, hx140b⟩ := Zz hx140
  have hx140c := Zr hx140b
  refine Za rfl (by simp [Nat.add_assoc, hx140a, hx140b, hx140c, c139, c139M]; rfl) ?_
  obtain ⟨y141, hy141, hr138⟩ := bs hr138
  have ehy141 := ZqJ hy141
  simp only [Zhw, Zkv, nf, nfs] at ehy141
  obtain ⟨_, u142, hr138⟩ := bs hr138
  have u142_0 := ZE u142
  have n1_u142_0 : p17.length + y141.length ≤ 140737488355328 := by omega
  have n2_u142_0 : p17.length + y141.length ≤ 9223372036854775807 := by omega
  refine Za rfl (by simp [Nat.add_assoc, hO, hT109, ehy141, n1_u142_0, n2_u142_0, c139, c139M]; rfl) ?_
  obtain ⟨y143, hy143, hr138⟩ := bs hr138
  have ehy143 := ZgU hy143
  simp only [ZeW, Zgx, nf, nfs] at ehy143
  obtain ⟨_, u144, hr138⟩ := bs hr138
  have u144_0 := ZE u144
  have n1_u144_0 : p17.length + (y141.length + y143.length) ≤ 140737488355328 := by
   have h := u144_0
   try simp at h
   omega
  have n2_u144_0 : p17.length + (y141.length + y143.length) ≤ 9223372036854775807 := by
   have h := u144_0
   try simp at h
   omega
  refine Zu rfl (by simp [Nat.add_assoc, hO, hT107, ehy143, n1_u144_0, n2_u144_0, c139, c139M]; rfl) ?_
  simp only [pq, reduceCtorEq]
  refine Zu rfl (by simp [Nat.add_assoc, c139, c139M]; rfl) ?_
  obtain rfl := Option.some.inj hr138
  simp only [pq, reduceCtorEq]
  simp [Nat.add_assoc, und, List.replicate, Nat.add_assoc, c139, c139M]
 ·skip
  have c139N := c139
  try simp at c139N
  first | have c139M : (_ = _) = True := eq_true c139N | have c139M := c139N
  rw [if_neg] at hr138
  rotate_left
  ·simp [Nat.add_assoc, c139, c139M]
  refine Ze (by simp [Nat.add_assoc, bV, c139, c139M]) ?_
  refine Zq ?_
  obtain ⟨r145, q145, rfl⟩ := ms hr138
  simp only [pq, reduceCtorEq]
  rintro rfl
  try simp only [pq, reduceCtorEq]
  unfold ZdG at q145
  obtain ⟨y146, hy146, q145⟩ := bs q145
  have ehy146 := ZiN hy146
  simp only [Zfv, Zhu, nf, nfs] at ehy146
  obtain ⟨_, u147, q145⟩ := bs q145
  have u147_0 := ZE u147
  have n1_u147_0 : p17.length + y146.length ≤ 140737488355328 := by omega
  have n2_u147_0 : p17.length + y146.length ≤ 9223372036854775807 := by omega
  refine Za rfl (by simp [Nat.add_assoc, hO, hT108, ehy146, n1_u147_0, n2_u147_0, c139, c139M]; rfl) ?_
  refine Zb ?_
  refine Za rfl (by simp [Nat.add_assoc, c139, c139M]; rfl) ?_
  refine Zh ?_
  refine ZJ (kq := ⟨[1, 2, 5, 50, 51, 52], [2, 16], []⟩) (H := fun (s : Int × (List Int)) => match s with | (p37, p38) => (⟨(und 1 ++ ([.one (.v (.bool a1)), .ptr 2 0 0 0 4] ++ (und 2 ++ ([.one (.ms 16 0 0 (p38.length) 1)] ++ (und 44 ++ ([.one (.slice .no (List.map Zl a0.2.2.1)), .one (.v (.int .i64 (a0.2.2.1.length : Int))), .one (.v (.int .i64 p37))] ++ (und 51)))))) : List PV), ([(2, ⟨0, 4, [[.v (.int .u32 a0.1), .slice .no (List.map Zm a0.2.1), .slice .no (List.map Zl a0.2.2.1), .v (.int .u32 a0.2.2.2)]], false, false⟩), (16, ⟨0, 1, Zk .u8 p38, false, true⟩)] : Boxes)⟩ : ASt)) (by kernel_rfl) q145 (by simp [Nat.add_assoc, und, List.replicate, c139, c139M]) ?_
  rintro ⟨p37, p38⟩ x156r hr156
  simp only [Zcm] at hr156
  unfold b103_2
  simp only [und, List.replicate, List.cons_append, List.nil_append]
  refine Za rfl (by simp [Nat.add_assoc, c139, c139M]; rfl) ?_
  by_cases c157 : p37 < (a0.2.2.1.length : Int)
  ·skip
   have c157N := c157
   try simp at c157N
   first | have c157M : (_ = _) = True := eq_true c157N | have c157M := c157N
   rw [if_pos] at hr156
   rotate_left
   ·simp [Nat.add_assoc, c139, c139M, c157, c157M]
   refine Zd (by simp [Nat.add_assoc, bV, c139, c139M, c157, c157M]) ?_
   refine Zg ?_
   refine Zh ?_
   obtain ⟨x158, hx158, hr156⟩ := bs hr156
   obtain ⟨hx158a, hx158b⟩ := Zz hx158
   have hx158c := Zr hx158b
   refine Za rfl (by simp [Nat.add_assoc, hx158a, hx158b, hx158c, c139, c139M, c157, c157M]; rfl) ?_
   obtain ⟨y159, hy159, hr156⟩ := bs hr156
   have ehy159 := Zm1 hy159
   simp only [Zgy, Zjz, nf, nfs] at ehy159
   obtain ⟨_, u160, hr156⟩ := bs hr156
   have u160_0 := ZE u160
   have n1_u160_0 : p38.length + y159.length ≤ 140737488355328 := by omega
   have n2_u160_0 : p38.length + y159.length ≤ 9223372036854775807 := by omega
   refine Za rfl (by simp [Nat.add_assoc, hO, hT110, ehy159, n1_u160_0, n2_u160_0, c139, c139M, c157, c157M]; rfl) ?_
   obtain ⟨y161, hy161, hr156⟩ := bs hr156
   have ehy161 := Zm2 hy161
   simp only [Zgz, ZjA, nf, nfs] at ehy161
   obtain ⟨_, u162, hr156⟩ := bs hr156
   have u162_0 := ZE u162
   have n1_u162_0 : p38.length + (y159.length + y161.length) ≤ 140737488355328 := by
    have h := u162_0
    try simp at h
    omega
   have n2_u162_0 : p38.length + (y159.length + y161.length) ≤ 9223372036854775807 := by
    have h := u162_0
    try simp at h
    omega
   refine Zu rfl (by simp [Nat.add_assoc, hO, hT111, ehy161, n1_u162_0, n2_u162_0, c139, c139M, c157, c157M]; rfl) ?_
   simp only [pq, reduceCtorEq]
   refine Zu rfl (by simp [Nat.add_assoc, c139, c139M, c157, c157M]; rfl) ?_
   obtain rfl := Option.some.inj hr156
   simp only [pq, reduceCtorEq]
   simp [Nat.add_assoc, und, List.replicate, Nat.add_assoc, c139, c139M, c157, c157M]
  ·skip
   have c157N := c157
   try simp at c157N
   first | have c157M : (_ = _) = True := eq_true c157N | have c157M := c157N
   rw [if_neg] at hr156
   rotate_left
   ·simp [Nat.add_assoc, c139, c139M, c157, c157M]
   refine Ze (by simp [Nat.add_assoc, bV, c139, c139M, c157, c157M]) ?_
   refine Zq ?_
   obtain ⟨r163, q163, rfl⟩ := ms hr156
   simp only [pq, reduceCtorEq]
   rintro rfl
   try simp only [pq, reduceCtorEq]
   unfold ZdF at q163
   obtain ⟨y164, hy164, q163⟩ := bs q163
   have ehy164 := ZgU hy164
   simp only [ZeW, Zgx, nf, nfs] at ehy164
   obtain ⟨_, u165, q163⟩ := bs q163
   have u165_0 := ZE u165
   have n1_u165_0 : p38.length + y164.length ≤ 140737488355328 := by omega
   have n2_u165_0 : p38.length + y164.length ≤ 9223372036854775807 := by omega
   refine Za rfl (by simp [Nat.add_assoc, hO, hT107, ehy164, n1_u165_0, n2_u165_0, c139, c139M, c157, c157M]; rfl) ?_
   refine Zb ?_
   refine Za rfl (by simp [Nat.add_assoc, c139, c139M, c157, c157M]; rfl) ?_
   by_cases c166 : a1 = true
   ·skip
    rw [if_neg (not_not_intro c166)] at q163
    refine Ze (by simp [Nat.add_assoc, bV, c139, c139M, c157, c157M, c166]) ?_
    refine Zg ?_
    refine Zb ?_
    refine Za rfl (by simp [Nat.add_assoc, c139, c139M, c157, c157M, c166]; rfl) ?_
    refine Zh ?_
    refine ZJ (kq := ⟨[5, 77, 78, 79], [16], []⟩) (H := fun (s : Int × (List Int)) => match s with | (p80, p81) => (⟨(und 5 ++ ([.one (.ms 16 0 0 (p81.length) 1)] ++ (und 71 ++ ([.one (.slice .no (List.map Zm a0.2.1)), .one (.v (.int .i64 (a0.2.1.length : Int))), .one (.v (.int .i64 p80))] ++ (und 24)))) : List PV), ([(16, ⟨0, 1, Zk .u8 p81, false, true⟩)] : Boxes)⟩ : ASt)) (by kernel_rfl) q163 (by simp [Nat.add_assoc, und, List.replicate, c139, c139M, c157, c157M, c166]) ?_
    rintro ⟨p80, p81⟩ x185r hr185
    simp only [Zcl] at hr185
    unfold b103_3
    simp only [und, List.replicate, List.cons_append, List.nil_append]
    refine Za rfl (by simp [Nat.add_assoc, c139, c139M, c157, c157M, c166]; rfl) ?_
    by_cases c186 : p80 < (a0.2.1.length : Int)
    ·skip
     have c186N := c186
     try simp at c186N
     first | have c186M : (_ = _) = True := eq_true c186N | have c186M := c186N
     rw [if_pos] at hr185
     rotate_left
     ·simp [Nat.add_assoc, c139, c139M, c157, c157M, c166, c186, c186M]
     refine Zd (by simp [Nat.add_assoc, bV, c139, c139M, c157, c157M, c166, c186, c186M]) ?_
     refine Zg ?_
     refine Zh ?_
     obtain ⟨x187, hx187, hr185⟩ := bs hr185
     obtain ⟨hx187a, hx187b⟩ := Zz hx187
     have hx187c := Zr hx187b
     refine Za rfl (by simp [Nat.add_assoc, hx187a, hx187b, hx187c, c139, c139M, c157, c157M, c166, c186, c186M]; rfl) ?_
     obtain ⟨y188, hy188, hr185⟩ := bs hr185
     have ehy188 := ZiN hy188
     simp only [Zfv, Zhu, nf, nfs] at ehy188
     obtain ⟨_, u189, hr185⟩ := bs hr185
     have u189_0 := ZE u189
     have n1_u189_0 : p81.length + y188.length ≤ 140737488355328 := by omega
     have n2_u189_0 : p81.length + y188.length ≤ 9223372036854775807 := by omega
     refine Za rfl (by simp [Nat.add_assoc, hO, hT108, ehy188, n1_u189_0, n2_u189_0, c139, c139M, c157, c157M, c166, c186, c186M]; rfl) ?_
     refine Za rfl (by simp [Nat.add_assoc, c139, c139M, c157, c157M, c166, c186, c186M]; rfl) ?_
     refine Zb7 ?_
     refine ZJ (kq := ⟨[5, 77, 78, 79, 91, 92, 93], [16], []⟩) (H := fun (s : Int × (List Int)) => match s with | (p109, p110) => (⟨(und 5 ++ ([.one (.ms 16 0 0 (p110.length) 1)] ++ (und 71 ++ ([.one (.slice .no (List.map Zm a0.2.1)), .one (.v (.int .i64 (a0.2.1.length : Int))), .one (.v (.int .i64 p80))] ++ (und 11 ++ ([.one (.slice .no (List.map Yi x187.2.2)), .one (.v (.int .i64 (x187.2.2.length : Int))), .one (.v (.int .i64 p109))] ++ (und 10)))))) : List PV), ([(16, ⟨0, 1, Zk .u8 p110, false, true⟩)] : Boxes)⟩ : ASt)) (by kernel_rfl) hr185 (by simp [Nat.add_assoc, und, List.replicate, c139, c139M, c157, c157M, c166, c186, c186M]) ?_
     rintro ⟨p109, p110⟩ x196r hr196
     simp only [Zbc] at hr196
     unfold b103_4
     simp only [und, List.replicate, List.cons_append, List.nil_append]
     refine Za rfl (by simp [Nat.add_assoc, c139, c139M, c157, c157M, c166, c186, c186M]; rfl) ?_
     by_cases c197 : p109 < (x187.2.2.length : Int)
     ·skip
      have c197N := c197
      try simp at c197N
      first | have c197M : (_ = _) = True := eq_true c197N | have c197M := c197N
      rw [if_pos] at hr196
      rotate_left
      ·simp [Nat.add_assoc, c139, c139M, c157, c157M, c166, c186, c186M, c197, c197M]
      refine Zd (by simp [Nat.add_assoc, bV, c139, c139M, c157, c157M, c166, c186, c186M, c197, c197M]) ?_
      refine Zg ?_
      refine Zh ?_
      obtain ⟨x198, hx198, hr196⟩ := bs hr196
      obtain ⟨hx198a, hx198b⟩ := Zz hx198
      have hx198c := Zr hx198b
      refine Za rfl (by simp [Nat.add_assoc, hx198a, hx198b, hx198c, c139, c139M, c157, c157M, c166, c186, c186M, c197, c197M]; rfl) ?_
      obtain ⟨y199, hy199, hr196⟩ := bs hr196
      have ehy199 := Zm2 hy199
      simp only [Zgz, ZjA, nf, nfs] at ehy199
      obtain ⟨_, u200, hr196⟩ := bs hr196
      have u200_0 := ZE u200
      have n1_u200_0 : p110.length + y199.length ≤ 140737488355328 := by omega
      have n2_u200_0 : p110.length + y199.length ≤ 9223372036854775807 := by omega
      refine Zu rfl (by simp [Nat.add_assoc, hO, hT111, ehy199, n1_u200_0, n2_u200_0, c139, c139M, c157, c157M, c166, c186, c186M, c197, c197M]; rfl) ?_
      simp only [pq, reduceCtorEq]
      refine Zu rfl (by simp [Nat.add_assoc, c139, c139M, c157, c157M, c166, c186, c186M, c197, c197M]; rfl) ?_
      obtain rfl := Option.some.inj hr196
      simp only [pq, reduceCtorEq]
      simp [Nat.add_assoc, und, List.replicate, Nat.add_assoc, c139, c139M, c157, c157M, c166, c186, c186M, c197, c197M]
     ·skip
      have c197N := c197
      try simp at c197N
      first | have c197M : (_ = _) = True := eq_true c197N | have c197M := c197N
      rw [if_neg] at hr196
      rotate_left
      ·simp [Nat.add_assoc, c139, c139M, c157, c157M, c166, c186, c186M, c197, c197M]
      refine Ze (by simp [Nat.add_assoc, bV, c139, c139M, c157, c157M, c166, c186, c186M, c197, c197M]) ?_
      refine Zq ?_
      obtain ⟨r201, q201, rfl⟩ := ms hr196
      simp only [pq, reduceCtorEq]
      rintro rfl
      try simp only [pq, reduceCtorEq]
      unfold Zfj at q201
      refine Zu rfl (by simp [Nat.add_assoc, c139, c139M, c157, c157M, c166, c186, c186M, c197, c197M]; rfl) ?_
      obtain rfl := Option.some.inj q201
      simp only [pq, reduceCtorEq]
      simp [Nat.add_assoc, und, List.replicate, Nat.add_assoc, c139, c139M, c157, c157M, c166, c186, c186M, c197, c197M]
    ·skip
     have c186N := c186
     try simp at c186N
     first | have c186M : (_ = _) = True := eq_true c186N | have c186M := c186N
     rw [if_neg] at hr185
     rotate_left
     ·simp [Nat.add_assoc, c139, c139M, c157, c157M, c166, c186, c186M]
     refine Ze (by simp [Nat.add_assoc, bV, c139, c139M, c157, c157M, c166, c186, c186M]) ?_
     refine Zq ?_
     obtain ⟨r202, q202, rfl⟩ := ms hr185
     simp only [pq, reduceCtorEq]
     rintro rfl
     try simp only [pq, reduceCtorEq]
     unfold Zfi at q202
     refine Za rfl (by simp [Nat.add_assoc, c139, c139M, c157, c157M, c166, c186, c186M]; rfl) ?_
     refine Zi ?_
     obtain rfl := Option.some.inj q202
     simp [Nat.add_assoc, Zj, c139, c139M, c157, c157M, c166, c186, c186M, c139N, c157N, c186N]
   ·skip
    rw [if_pos c166] at q163
    refine Zd (by simp [Nat.add_assoc, bV, c139, c139M, c157, c157M, c166]) ?_
    refine Zb ?_
    refine Za rfl (by simp [Nat.add_assoc, c139, c139M, c157, c157M, c166]; rfl) ?_
    refine Zn ?_
    obtain rfl := Option.some.inj q163
    simp [Nat.add_assoc, Zj, c139, c139M, c157, c157M, c166, c139N, c157N]
def kp85 : Keep := fun i => if i = 4 then ⟨[1, 20, 21, 22], [1], []⟩ else if i = 10 then ⟨[1, 37, 38, 39], [1], []⟩ else if i = 15 then ⟨[1, 37, 38, 39, 48, 49, 50], [1], []⟩ else ⟨[], [], []⟩
theorem w85 {T : Tab} (hO : T.own = fun _ => []) (hT103 : T 103 = some G103) (a0 : Tapi_Tx) (x : Bool) (hr : ZcS a0 = some x) : ∃ kp fl n, Zs tt T G kp fl n Tryz.f85 (E85 a0) = some (R85 a0 x) := by
 simp only [E85, R85]
 refine fnE (kp := kp85) (w := false) body85 (by simp) ?_
 unfold c85
 rw [Tryz.ntmps85]
 unfold ZcS at hr
 refine Za rfl (by simp []; rfl) ?_
 refine Zb ?_
 by_cases c35 : 64 < (a0.2.1.length : Int)
 ·skip
  have c35N := c35
  try simp at c35N
  first | have c35M : (_ = _) = True := eq_true c35N | have c35M := c35N
  refine Za rfl (by simp [c35, c35M]; rfl) ?_
  rw [if_pos] at hr
  rotate_left
  ·simp [c35, c35M]
  refine Zd (by simp [bV, c35, c35M]) ?_
  refine Zb ?_
  refine Za rfl (by simp [c35, c35M]; rfl) ?_
  refine Zn ?_
  obtain rfl := Option.some.inj hr
  simp [Zj, c35, c35M, c35N]
 ·skip
  have c35N := c35
  try simp at c35N
  first | have c35M : (_ = _) = True := eq_true c35N | have c35M := c35N
  refine Za rfl (by simp [c35, c35M]; rfl) ?_
  by_cases c36 : 64 < (a0.2.2.1.length : Int)
  ·skip
   have c36N := c36
   try simp at c36N
   first | have c36M : (_ = _) = True := eq_true c36N | have c36M := c36N
   rw [if_pos] at hr
   rotate_left
   ·simp [c35, c35M, c36, c36M]
   refine Zd (by simp [bV, c35, c35M, c36, c36M]) ?_
   refine Zb ?_
   refine Za rfl (by simp [c35, c35M, c36, c36M]; rfl) ?_
   refine Zn ?_
   obtain rfl := Option.some.inj hr
   simp [Zj, c35, c35M, c36, c36M, c35N, c36N]
  ·skip
   have c36N := c36
   try simp at c36N
   first | have c36M : (_ = _) = True := eq_true c36N | have c36M := c36N
   rw [if_neg] at hr
   rotate_left
   ·simp [c35, c35M, c36, c36M]
   refine Ze (by simp [bV, c35, c35M, c36, c36M]) ?_
   refine Zg ?_
   refine Zb ?_
   refine Za rfl (by simp [c35, c35M, c36, c36M]; rfl) ?_
   refine Zh ?_
   refine ZJ (kq := ⟨[1, 20, 21, 22], [1], []⟩) (H := fun (s : Int) => match s with | p4 => (⟨(und 1 ++ ([.ptr 1 0 0 0 4] ++ (und 18 ++ ([.one (.slice .no (List.map Zl a0.2.2.1)), .one (.v (.int .i64 (a0.2.2.1.length : Int))), .one (.v (.int .i64 p4))] ++ (und 40)))) : List PV), ([(1, ⟨0, 4, [[.v (.int .u32 a0.1), .slice .no (List.map Zm a0.2.1), .slice .no (List.map Zl a0.2.2.1), .v (.int .u32 a0.2.2.2)]], false, false⟩)] : Boxes)⟩ : ASt)) (by kernel_rfl) hr (by simp [und, List.replicate, c35, c35M, c36, c36M]) ?_
   rintro p4 x43r hr43
   simp only [Zcx] at hr43
   unfold b85_1
   simp only [und, List.replicate, List.cons_append, List.nil_append]
   refine Za rfl (by simp [c35, c35M, c36, c36M]; rfl) ?_
   by_cases c44 : p4 < (a0.2.2.1.length : Int)
   ·skip
    have c44N := c44
    try simp at c44N
    first | have c44M : (_ = _) = True := eq_true c44N | have c44M := c44N
    rw [if_pos] at hr43
    rotate_left
    ·simp [c35, c35M, c36, c36M, c44, c44M]
    refine Zd (by simp [bV, c35, c35M, c36, c36M, c44, c44M]) ?_
    refine Zg ?_
    refine Zh ?_
    obtain ⟨x45, hx45, hr43⟩ := bs hr43
    obtain ⟨hx45a, hx45b⟩ := Zz hx45
    have hx45c := Zr hx45b
    refine Za rfl (by simp [hx45a, hx45b, hx45c, c35, c35M, c36, c36M, c44, c44M]; rfl) ?_
    by_cases c46 : x45.1 < 0
    ·skip
     refine Za rfl (by simp [c35, c35M, c36, c36M, c44, c44M, c46]; rfl) ?_
     rw [if_pos] at hr43
     rotate_left
     ·simp [c35, c35M, c36, c36M, c44, c44M, c46]
     refine Zp (by simp [bV, c35, c35M, c36, c36M, c44, c44M, c46]) ?_
     refine Za rfl (by simp [c35, c35M, c36, c36M, c44, c44M, c46]; rfl) ?_
     refine Zi ?_
     obtain rfl := Option.some.inj hr43
     simp only [pq, reduceCtorEq]
     rintro rfl
     simp [Zj, c35, c35M, c36, c36M, c44, c44M, c46, c35N, c36N, c44N]
    ·skip
     refine Za rfl (by simp [c35, c35M, c36, c36M, c44, c44M, c46]; rfl) ?_
     by_cases c47 : 520 < (x45.2.length : Int)
     ·skip
      have c47N := c47
      try simp at c47N
      first | have c47M : (_ = _) = True := eq_true c47N | have c47M := c47N
      rw [if_pos] at hr43
      rotate_left
      ·simp [c35, c35M, c36, c36M, c44, c44M, c46, c47, c47M]
      refine Zp (by simp [bV, c35, c35M, c36, c36M, c44, c44M, c46, c47, c47M]) ?_
      refine Za rfl (by simp [c35, c35M, c36, c36M, c44, c44M, c46, c47, c47M]; rfl) ?_
      refine Zi ?_
      obtain rfl := Option.some.inj hr43
      simp only [pq, reduceCtorEq]
      rintro rfl
      simp [Zj, c35, c35M, c36, c36M, c44, c44M, c46, c47, c47M, c35N, c36N, c44N, c47N]
     ·skip
      have c47N := c47
      try simp at c47N
      first | have c47M : (_ = _) = True := eq_true c47N | have c47M := c47N
      rw [if_neg] at hr43
      rotate_left
      ·simp [c35, c35M, c36, c36M, c44, c44M, c46, c47, c47M]
      refine Zw (by simp [bV, c35, c35M, c36, c36M, c44, c44M, c46, c47, c47M]) ?_
      refine ZU ?_
      simp only [pq, reduceCtorEq]
      refine Zu rfl (by simp [c35, c35M, c36, c36M, c44, c44M, c46, c47, c47M]; rfl) ?_
      obtain rfl := Option.some.inj hr43
      simp only [pq, reduceCtorEq]
      simp [und, List.replicate, Nat.add_assoc, c35, c35M, c36, c36M, c44, c44M, c46, c47, c47M]
   ·skip
    have c44N := c44
    try simp at c44N
    first | have c44M : (_ = _) = True := eq_true c44N | have c44M := c44N
    rw [if_neg] at hr43
    rotate_left
    ·simp [c35, c35M, c36, c36M, c44, c44M]
    refine Ze (by simp [bV, c35, c35M, c36, c36M, c44, c44M]) ?_
    refine Zq ?_
    obtain ⟨r48, q48, rfl⟩ := ms hr43
    simp only [pq, reduceCtorEq]
    rintro rfl
    try simp only [pq, reduceCtorEq]
    unfold Ze5 at q48
    refine Zb ?_
    refine Za rfl (by simp [c35, c35M, c36, c36M, c44, c44M]; rfl) ?_
    refine Zh ?_
    refine ZJ (kq := ⟨[1, 37, 38, 39], [1], []⟩) (H := fun (s : Int) => match s with | p19 => (⟨(und 1 ++ ([.ptr 1 0 0 0 4] ++ (und 35 ++ ([.one (.slice .no (List.map Zm a0.2.1)), .one (.v (.int .i64 (a0.2.1.length : Int))), .one (.v (.int .i64 p19))] ++ (und 23)))) : List PV), ([(1, ⟨0, 4, [[.v (.int .u32 a0.1), .slice .no (List.map Zm a0.2.1), .slice .no (List.map Zl a0.2.2.1), .v (.int .u32 a0.2.2.2)]], false, false⟩)] : Boxes)⟩ : ASt)) (by kernel_rfl) q48 (by simp [und, List.replicate, c35, c35M, c36, c36M, c44, c44M]) ?_
    rintro p19 x64r hr64
    simp only [Zcw] at hr64
    unfold b85_2
    simp only [und, List.replicate, List.cons_append, List.nil_append]
    refine Za rfl (by simp [c35, c35M, c36, c36M, c44, c44M]; rfl) ?_
    by_cases c65 : p19 < (a0.2.1.length : Int)
    ·skip
     have c65N := c65
     try simp at c65N
     first | have c65M : (_ = _) = True := eq_true c65N | have c65M := c65N
     rw [if_pos] at hr64
     rotate_left
     ·simp [c35, c35M, c36, c36M, c44, c44M, c65, c65M]
     refine Zd (by simp [bV, c35, c35M, c36, c36M, c44, c44M, c65, c65M]) ?_
     refine Zg ?_
     refine Zh ?_
     obtain ⟨x66, hx66, hr64⟩ := bs hr64
     obtain ⟨hx66a, hx66b⟩ := Zz hx66
     have hx66c := Zr hx66b
     refine Za rfl (by simp [hx66a, hx66b, hx66c, c35, c35M, c36, c36M, c44, c44M, c65, c65M]; rfl) ?_
     refine Zb ?_
     refine Za rfl (by simp [c35, c35M, c36, c36M, c44, c44M, c65, c65M]; rfl) ?_
     by_cases c67 : 32 < (x66.2.2.length : Int)
     ·skip
      have c67N := c67
      try simp at c67N
      first | have c67M : (_ = _) = True := eq_true c67N | have c67M := c67N
      rw [if_pos c67] at hr64
      refine Zd (by simp [bV, c35, c35M, c36, c36M, c44, c44M, c65, c65M, c67, c67M]) ?_
      refine Zb ?_
      refine Za rfl (by simp [c35, c35M, c36, c36M, c44, c44M, c65, c65M, c67, c67M]; rfl) ?_
      refine Zn ?_
      obtain rfl := Option.some.inj hr64
      simp only [pq, reduceCtorEq]
      rintro rfl
      simp [Zj, c35, c35M, c36, c36M, c44, c44M, c65, c65M, c67, c67M, c35N, c36N, c44N, c65N, c67N]
     ·skip
      have c67N := c67
      try simp at c67N
      first | have c67M : (_ = _) = True := eq_true c67N | have c67M := c67N
      rw [if_neg c67] at hr64
      refine Ze (by simp [bV, c35, c35M, c36, c36M, c44, c44M, c65, c65M, c67, c67M]) ?_
      refine Zg ?_
      refine Za rfl (by simp [c35, c35M, c36, c36M, c44, c44M, c65, c65M, c67, c67M]; rfl) ?_
      refine Zb7 ?_
      refine ZJ (kq := ⟨[1, 37, 38, 39, 48, 49, 50], [1], []⟩) (H := fun (s : Int) => match s with | p31 => (⟨(und 1 ++ ([.ptr 1 0 0 0 4] ++ (und 35 ++ ([.one (.slice .no (List.map Zm a0.2.1)), .one (.v (.int .i64 (a0.2.1.length : Int))), .one (.v (.int .i64 p19))] ++ (und 8 ++ ([.one (.slice .no (List.map Yi x66.2.2)), .one (.v (.int .i64 (x66.2.2.length : Int))), .one (.v (.int .i64 p31))] ++ (und 12)))))) : List PV), ([(1, ⟨0, 4, [[.v (.int .u32 a0.1), .slice .no (List.map Zm a0.2.1), .slice .no (List.map Zl a0.2.2.1), .v (.int .u32 a0.2.2.2)]], false, false⟩)] : Boxes)⟩ : ASt)) (by kernel_rfl) hr64 (by simp [und, List.replicate, c35, c35M, c36, c36M, c44, c44M, c65, c65M, c67, c67M]) ?_
      rintro p31 x73r hr73
      simp only [ZbK] at hr73
      unfold b85_3
      simp only [und, List.replicate, List.cons_append, List.nil_append]
      refine Za rfl (by simp [c35, c35M, c36, c36M, c44, c44M, c65, c65M, c67, c67M]; rfl) ?_
      by_cases c74 : p31 < (x66.2.2.length : Int)
      ·skip
       have c74N := c74
       try simp at c74N
       first | have c74M : (_ = _) = True := eq_true c74N | have c74M := c74N
       rw [if_pos] at hr73
       rotate_left
       ·simp [c35, c35M, c36, c36M, c44, c44M, c65, c65M, c67, c67M, c74, c74M]
       refine Zd (by simp [bV, c35, c35M, c36, c36M, c44, c44M, c65, c65M, c67, c67M, c74, c74M]) ?_
       refine Zg ?_
       refine Zh ?_
       obtain ⟨x75, hx75, hr73⟩ := bs hr73
       obtain ⟨hx75a, hx75b⟩ := Zz hx75
       have hx75c := Zr hx75b
       refine Za rfl (by simp [hx75a, hx75b, hx75c, c35, c35M, c36, c36M, c44, c44M, c65, c65M, c67, c67M, c74, c74M]; rfl) ?_
       refine Za rfl (by simp [c35, c35M, c36, c36M, c44, c44M, c65, c65M, c67, c67M, c74, c74M]; rfl) ?_
       by_cases c76 : 520 < (x75.length : Int)
       ·skip
        have c76N := c76
        try simp at c76N
        first | have c76M : (_ = _) = True := eq_true c76N | have c76M := c76N
        rw [if_pos c76] at hr73
        refine Zp (by simp [bV, c35, c35M, c36, c36M, c44, c44M, c65, c65M, c67, c67M, c74, c74M, c76, c76M]) ?_
        refine Za rfl (by simp [c35, c35M, c36, c36M, c44, c44M, c65, c65M, c67, c67M, c74, c74M, c76, c76M]; rfl) ?_
        refine Zi ?_
        obtain rfl := Option.some.inj hr73
        simp only [pq, reduceCtorEq]
        rintro rfl
        simp only [pq, reduceCtorEq]
        rintro rfl
        simp [Zj, c35, c35M, c36, c36M, c44, c44M, c65, c65M, c67, c67M, c74, c74M, c76, c76M, c35N, c36N, c44N, c65N, c67N, c74N, c76N]
       ·skip
        have c76N := c76
        try simp at c76N
        first | have c76M : (_ = _) = True := eq_true c76N | have c76M := c76N
        rw [if_neg c76] at hr73
        refine Zw (by simp [bV, c35, c35M, c36, c36M, c44, c44M, c65, c65M, c67, c67M, c74, c74M, c76, c76M]) ?_
        refine ZU ?_
        simp only [pq, reduceCtorEq]
        refine Zu rfl (by simp [c35, c35M, c36, c36M, c44, c44M, c65, c65M, c67, c67M, c74, c74M, c76, c76M]; rfl) ?_
        obtain rfl := Option.some.inj hr73
        simp only [pq, reduceCtorEq]
        simp [und, List.replicate, Nat.add_assoc, c35, c35M, c36, c36M, c44, c44M, c65, c65M, c67, c67M, c74, c74M, c76, c76M]
      ·skip
       have c74N := c74
       try simp at c74N
       first | have c74M : (_ = _) = True := eq_true c74N | have c74M := c74N
       rw [if_neg] at hr73
       rotate_left
       ·simp [c35, c35M, c36, c36M, c44, c44M, c65, c65M, c67, c67M, c74, c74M]
       refine Ze (by simp [bV, c35, c35M, c36, c36M, c44, c44M, c65, c65M, c67, c67M, c74, c74M]) ?_
       refine Zq ?_
       obtain ⟨r77, q77, rfl⟩ := ms hr73
       simp only [pq, reduceCtorEq]
       rintro rfl
       try simp only [pq, reduceCtorEq]
       unfold Zgt at q77
       refine Zu rfl (by simp [c35, c35M, c36, c36M, c44, c44M, c65, c65M, c67, c67M, c74, c74M]; rfl) ?_
       obtain rfl := Option.some.inj q77
       simp only [pq, reduceCtorEq]
       simp [und, List.replicate, Nat.add_assoc, c35, c35M, c36, c36M, c44, c44M, c65, c65M, c67, c67M, c74, c74M]
    ·skip
     have c65N := c65
     try simp at c65N
     first | have c65M : (_ = _) = True := eq_true c65N | have c65M := c65N
     rw [if_neg] at hr64
     rotate_left
     ·simp [c35, c35M, c36, c36M, c44, c44M, c65, c65M]
     refine Ze (by simp [bV, c35, c35M, c36, c36M, c44, c44M, c65, c65M]) ?_
     refine Zq ?_
     obtain ⟨r78, q78, rfl⟩ := ms hr64
     simp only [pq, reduceCtorEq]
     rintro rfl
     try simp only [pq, reduceCtorEq]
     unfold Ze4 at q78
     obtain ⟨y79, hy79, q78⟩ := bs q78
     have ehy79 := ZqK hy79
     simp only [Zhx, Zkw, nf, nfs] at ehy79
     refine Za rfl (by simp [hO, hT103, ehy79, c35, c35M, c36, c36M, c44, c44M, c65, c65M]; rfl) ?_
     refine Zi ?_
     obtain rfl := Option.some.inj q78
     simp [Zj, hO, hT103, ehy79, c35, c35M, c36, c36M, c44, c44M, c65, c65M, c35N, c36N, c44N, c65N]
end Go.Proofs.YtbjhgolpnjokbaaGreat
