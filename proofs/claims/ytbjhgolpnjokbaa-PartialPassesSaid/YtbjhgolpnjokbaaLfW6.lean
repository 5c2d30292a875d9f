import Derived.Test.YtbjhgolpnjokbaaLfK
import Derived.Test.YtbjhgolpnjokbaaCode
namespace Go.Proofs.Ytbjhgolpnjokbaa
open Go.RowKit
open Go.Av
open Go.Lc
set_option maxRecDepth 100000
set_option linter.unusedSimpArgs false
set_option linter.unusedVariables false
set_option maxHeartbeats 4000000
variable {G : Glob}
def kp88 : Keep := fun i => if i = 3 then ⟨[0, 5, 9, 10], [8], []⟩ else ⟨[], [], []⟩
theorem w88 {T : Tab} (a0 : Int) (a1 : Int) (x : (List Int)) (hr : YG a0 a1 = some x) : ∃ kp fl n, ZC tt T G kp fl n Try.f88 (E88 (a0, a1)) = some (R88 (a0, a1) x) := by
 simp only [E88, R88]
 refine fnE (kp := kp88) (w := true) body88 (by simp) ?_
 unfold c88
 rw [Try.ntmps88]
 unfold YG at hr
 refine Za rfl (by simp []; rfl) ?_
 obtain ⟨_, u14, hr⟩ := bs hr
 obtain ⟨u14_0, u14_1⟩ := ZG u14
 have mf15 : (a1).toNat ≤ 140737488355328 := by omega
 have mf16 : (a1).toNat ≤ 9223372036854775807 := by omega
 have mf17 : 0 ≤ a1 := by omega
 refine Za rfl (by simp [u14_0, u14_1, mf15, mf16, mf17]; rfl) ?_
 refine Zd ?_
 refine Za rfl (by simp []; rfl) ?_
 refine Zj ?_
 refine Z2 (kq := ⟨[0, 5, 9, 10], [8], []⟩) (H := fun (s : Int × (List Int)) => match s with | (p8, p9) => (⟨([.one (.v (.int .u64 a0))] ++ (und 4 ++ ([.one (.ms 8 0 0 (p9.length) 1)] ++ (und 3 ++ ([.one (.v (.int .i64 a1)), .one (.v (.int .i64 p8))] ++ (und 12))))) : List PV), ([(8, ⟨0, 1, Zk .u8 p9, false, true⟩)] : Boxes)⟩ : ASt)) (by kernel_rfl) hr (by simp [und, List.replicate, ]) ?_
 rintro ⟨p8, p9⟩ x23r hr23
 simp only [Za4] at hr23
 unfold b88_1
 simp only [und, List.replicate, List.cons_append, List.nil_append]
 refine Za rfl (by simp []; rfl) ?_
 by_cases c24 : p8 < a1
 ·skip
  rw [if_pos] at hr23
  rotate_left
  ·simp [c24]
  refine Ze (by simp [bV, c24]) ?_
  refine Zg ?_
  refine Zj ?_
  refine Za rfl (by simp [c24]; rfl) ?_
  obtain ⟨_, u25, hr23⟩ := bs hr23
  have u25_0 := ZG u25
  obtain ⟨j26, hj26, hr23⟩ := bs hr23
  obtain ⟨j26a, j26b, j26c⟩ := YM hj26
  refine ZM rfl (by simp [u25_0, j26a, j26b, j26c, c24]; rfl) ?_
  simp only [pq, reduceCtorEq]
  refine ZM rfl (by simp [c24]; rfl) ?_
  obtain rfl := Option.some.inj hr23
  simp only [pq, reduceCtorEq]
  simp [und, List.replicate, Nat.add_assoc, c24]
 ·skip
  rw [if_neg] at hr23
  rotate_left
  ·simp [c24]
  refine Zf (by simp [bV, c24]) ?_
  refine ZD ?_
  obtain ⟨r27, q27, rfl⟩ := ms hr23
  simp only [pq, reduceCtorEq]
  rintro rfl
  try simp only [pq, reduceCtorEq]
  unfold Zd1 at q27
  refine Za rfl (by simp [c24]; rfl) ?_
  refine Zh ?_
  obtain rfl := Option.some.inj q27
  simp [Zi, c24]
def kp82 : Keep := fun i => ⟨[], [], []⟩
theorem w82 {T : Tab} (hO : T.own = fun _ => []) (hT87 : T 87 = some G87) (hT88 : T 88 = some G88) (a0 : (List Int)) (a1 : Int) (x : (List Int)) (hr : Yy a0 a1 = some x) : ∃ kp fl n, ZC tt T G kp fl n Try.f82 (E82 (a0, a1)) = some (R82 (a0, a1) x) := by
 simp only [E82, R82]
 refine fnE (kp := kp82) (w := true) body82 (by simp) ?_
 unfold c82
 rw [Try.ntmps82]
 unfold Yy at hr
 refine Za rfl (by simp []; rfl) ?_
 obtain ⟨y3, hy3, hr⟩ := bs hr
 have ehy3 := Zns hy3
 simp only [E88, R88, nf, nfs] at ehy3
 obtain ⟨y4, hy4, hr⟩ := bs hr
 have ehy4 := Ze4 hy4
 simp only [E87, R87, nf, nfs] at ehy4
 refine Za rfl (by simp [hO, hT88, ehy3, hT87, ehy4]; rfl) ?_
 refine Zh ?_
 obtain rfl := Option.some.inj hr
 simp [Zi, hO, hT88, ehy3, hT87, ehy4]
def kp85 : Keep := fun i => ⟨[], [], []⟩
theorem w85 {T : Tab} (hO : T.own = fun _ => []) (hT87 : T 87 = some G87) (hT88 : T 88 = some G88) (a0 : (List Int)) (a1 : Int) (x : (List Int)) (hr : YV a0 a1 = some x) : ∃ kp fl n, ZC tt T G kp fl n Try.f85 (E85 (a0, a1)) = some (R85 (a0, a1) x) := by
 simp only [E85, R85]
 refine fnE (kp := kp85) (w := true) body85 (by simp) ?_
 unfold c85
 rw [Try.ntmps85]
 unfold YV at hr
 refine Za rfl (by simp []; rfl) ?_
 obtain ⟨y3, hy3, hr⟩ := bs hr
 have ehy3 := Zns hy3
 simp only [E88, R88, nf, nfs] at ehy3
 obtain ⟨y4, hy4, hr⟩ := bs hr
 have ehy4 := Ze4 hy4
 simp only [E87, R87, nf, nfs] at ehy4
 refine Za rfl (by simp [hO, hT88, ehy3, hT87, ehy4]; rfl) ?_
 refine Zh ?_
 obtain rfl := Option.some.inj hr
 simp [Zi, hO, hT88, ehy3, hT87, ehy4]
def kp89 : Keep := fun i => ⟨[], [], []⟩
theorem w89 {T : Tab} (hO : T.own = fun _ => []) (hT87 : T 87 = some G87) (hT88 : T 88 = some G88) (a0 : (List Int)) (a1 : Int) (x : (List Int)) (hr : Xe a0 a1 = some x) : ∃ kp fl n, ZC tt T G kp fl n Try.f89 (E89 (a0, a1)) = some (R89 (a0, a1) x) := by
 simp only [E89, R89]
 refine fnE (kp := kp89) (w := true) body89 (by simp) ?_
 unfold c89
 rw [Try.ntmps89]
 unfold Xe at hr
 refine Za rfl (by simp []; rfl) ?_
 obtain ⟨y3, hy3, hr⟩ := bs hr
 have ehy3 := Zns hy3
 simp only [E88, R88, nf, nfs] at ehy3
 obtain ⟨y4, hy4, hr⟩ := bs hr
 have ehy4 := Ze4 hy4
 simp only [E87, R87, nf, nfs] at ehy4
 refine Za rfl (by simp [hO, hT88, ehy3, hT87, ehy4]; rfl) ?_
 refine Zh ?_
 obtain rfl := Option.some.inj hr
 simp [Zi, hO, hT88, ehy3, hT87, ehy4]
def kp83 : Keep := fun i => ⟨[], [], []⟩
theorem w83 {T : Tab} (hO : T.own = fun _ => []) (hT82 : T 82 = some G82) (hT85 : T 85 = some G85) (hT87 : T 87 = some G87) (hT89 : T 89 = some G89) (a0 : (List Int)) (a1 : Int) (x : (List Int)) (hr : YC a0 a1 = some x) : ∃ kp fl n, ZC tt T G kp fl n Try.f83 (E83 (a0, a1)) = some (R83 (a0, a1) x) := by
 simp only [E83, R83]
 refine fnE (kp := kp83) (w := true) body83 (by simp) ?_
 unfold c83
 rw [Try.ntmps83]
 unfold YC at hr
 refine Za rfl (by simp []; rfl) ?_
 refine Zj ?_
 refine Za rfl (by simp []; rfl) ?_
 by_cases c8 : a1 < 253
 ·skip
  rw [if_pos c8] at hr
  refine Zy (by simp [bV, c8]) ?_
  obtain ⟨y9, hy9, hr⟩ := bs hr
  have ehy9 := Ze4 hy9
  simp only [E87, R87, nf, nfs] at ehy9
  refine Za rfl (by simp [hO, hT87, ehy9, c8]; rfl) ?_
  refine Zh ?_
  obtain rfl := Option.some.inj hr
  simp [Zi, hO, hT87, ehy9, c8]
 ·skip
  rw [if_neg c8] at hr
  refine ZI (by simp [bV, c8]) ?_
  refine Za rfl (by simp [c8]; rfl) ?_
  by_cases c10 : a1 < 65536
  ·skip
   rw [if_pos c10] at hr
   refine Zy (by simp [bV, c8, c10]) ?_
   obtain ⟨y11, hy11, hr⟩ := bs hr
   have ehy11 := Ze4 hy11
   simp only [E87, R87, nf, nfs] at ehy11
   obtain ⟨y12, hy12, hr⟩ := bs hr
   have ehy12 := ZsM hy12
   simp only [E89, R89, nf, nfs] at ehy12
   refine Za rfl (by simp [hO, hT87, ehy11, hT89, ehy12, c8, c10]; rfl) ?_
   refine Zh ?_
   obtain rfl := Option.some.inj hr
   simp [Zi, hO, hT87, ehy11, hT89, ehy12, c8, c10]
  ·skip
   rw [if_neg c10] at hr
   refine ZI (by simp [bV, c8, c10]) ?_
   refine Za rfl (by simp [c8, c10]; rfl) ?_
   by_cases c13 : a1 < 4294967296
   ·skip
    rw [if_pos c13] at hr
    refine Zy (by simp [bV, c8, c10, c13]) ?_
    obtain ⟨y14, hy14, hr⟩ := bs hr
    have ehy14 := Ze4 hy14
    simp only [E87, R87, nf, nfs] at ehy14
    obtain ⟨y15, hy15, hr⟩ := bs hr
    have ehy15 := ZjF hy15
    simp only [E82, R82, nf, nfs] at ehy15
    refine Za rfl (by simp [hO, hT87, ehy14, hT82, ehy15, c8, c10, c13]; rfl) ?_
    refine Zh ?_
    obtain rfl := Option.some.inj hr
    simp [Zi, hO, hT87, ehy14, hT82, ehy15, c8, c10, c13]
   ·skip
    rw [if_neg c13] at hr
    refine ZI (by simp [bV, c8, c10, c13]) ?_
    refine Yb ?_
    simp only [pq, reduceCtorEq]
    obtain ⟨y16, hy16, hr⟩ := bs hr
    have ehy16 := Ze4 hy16
    simp only [E87, R87, nf, nfs] at ehy16
    obtain ⟨y17, hy17, hr⟩ := bs hr
    have ehy17 := Zp5 hy17
    simp only [E85, R85, nf, nfs] at ehy17
    refine Za rfl (by simp [hO, hT87, ehy16, hT85, ehy17, c8, c10, c13]; rfl) ?_
    refine Zh ?_
    obtain rfl := Option.some.inj hr
    simp [Zi, hO, hT87, ehy16, hT85, ehy17, c8, c10, c13]
def kp90 : Keep := fun i => ⟨[], [], []⟩
theorem w90 {T : Tab} (hO : T.own = fun _ => []) (hT87 : T 87 = some G87) (a0 : (List Int)) (a1 : (Arr 32)) (x : (List Int)) (hr : Y0 a0 a1 = some x) : ∃ kp fl n, ZC tt T G kp fl n Try.f90 (E90 (a0, a1)) = some (R90 (a0, a1) x) := by
 simp only [E90, R90]
 refine fnE (kp := kp90) (w := true) body90 (by simp) ?_
 unfold c90
 rw [Try.ntmps90]
 unfold Y0 at hr
 refine Za rfl (by simp []; rfl) ?_
 obtain ⟨y2, hy2, hr⟩ := bs hr
 have ehy2 := Ze4 hy2
 simp only [E87, R87, nf, nfs] at ehy2
 refine Za rfl (by simp [hO, hT87, ehy2]; rfl) ?_
 refine Zh ?_
 obtain rfl := Option.some.inj hr
 simp [Zi, hO, hT87, ehy2]
def kp84 : Keep := fun i => ⟨[], [], []⟩
theorem w84 {T : Tab} (hO : T.own = fun _ => []) (hT82 : T 82 = some G82) (hT90 : T 90 = some G90) (a0 : Tapi_OutPoint) (x : (List Int)) (hr : Zb7 a0 = some x) : ∃ kp fl n, ZC tt T G kp fl n Try.f84 (E84 a0) = some (R84 a0 x) := by
 simp only [E84, R84]
 refine fnE (kp := kp84) (w := true) body84 (by simp) ?_
 unfold c84
 rw [Try.ntmps84]
 unfold Zb7 at hr
 refine Za rfl (by simp []; rfl) ?_
 obtain ⟨y3, hy3, hr⟩ := bs hr
 have ehy3 := ZsN hy3
 simp only [E90, R90, nf, nfs] at ehy3
 obtain ⟨y4, hy4, hr⟩ := bs hr
 have ehy4 := ZjF hy4
 simp only [E82, R82, nf, nfs] at ehy4
 refine ZR rfl (by simp [hO, hT90, ehy3, hT82, ehy4]; first | exact ⟨rfl, rfl⟩ | rfl) (by kernel_rfl) ?_
 refine Zh ?_
 obtain rfl := Option.some.inj hr
 simp [Zi, hO, hT90, ehy3, hT82, ehy4]
def kp86 : Keep := fun i => ⟨[], [], []⟩
theorem w86 {T : Tab} (hO : T.own = fun _ => []) (hT83 : T 83 = some G83) (hT87 : T 87 = some G87) (a0 : (List Int)) (a1 : (List Int)) (x : (List Int)) (hr : YI a0 a1 = some x) : ∃ kp fl n, ZC tt T G kp fl n Try.f86 (E86 (a0, a1)) = some (R86 (a0, a1) x) := by
 simp only [E86, R86]
 refine fnE (kp := kp86) (w := true) body86 (by simp) ?_
 unfold c86
 rw [Try.ntmps86]
 unfold YI at hr
 refine Za rfl (by simp []; rfl) ?_
 obtain ⟨y3, hy3, hr⟩ := bs hr
 have ehy3 := Zlp hy3
 simp only [E83, R83, nf, nfs] at ehy3
 obtain ⟨y4, hy4, hr⟩ := bs hr
 have ehy4 := Ze4 hy4
 simp only [E87, R87, nf, nfs] at ehy4
 refine Za rfl (by simp [hO, hT83, ehy3, hT87, ehy4]; rfl) ?_
 refine Zh ?_
 obtain rfl := Option.some.inj hr
 simp [Zi, hO, hT83, ehy3, hT87, ehy4]
def kp81 : Keep := fun i => if i = 4 then ⟨[1, 2, 5, 25, 26, 27], [2, 16], []⟩ else if i = 11 then ⟨[1, 2, 5, 50, 51, 52], [2, 16], []⟩ else if i = 20 then ⟨[5, 77, 78, 79], [16], []⟩ else if i = 24 then ⟨[5, 77, 78, 79, 91, 92, 93], [16], []⟩ else ⟨[], [], []⟩
theorem w81 {T : Tab} (hO : T.own = fun _ => []) (hT82 : T 82 = some G82) (hT83 : T 83 = some G83) (hT84 : T 84 = some G84) (hT85 : T 85 = some G85) (hT86 : T 86 = some G86) (a0 : Tapi_Tx) (a1 : Bool) (x : (List Int)) (hr : Zbv a0 a1 = some x) : ∃ kp fl n, ZC tt T G kp fl n Try.f81 (E81 (a0, a1)) = some (R81 (a0, a1) x) := by
 simp only [E81, R81]
 refine fnE (kp := kp81) (w := true) body81 (by simp) ?_
 unfold c81
 rw [Try.ntmps81]
 unfold Zbv at hr
 refine Za rfl (by simp [Nat.add_assoc, ]; rfl) ?_
 obtain ⟨y127, hy127, hr⟩ := bs hr
 have ehy127 := ZjF hy127
 simp only [E82, R82, nf, nfs] at ehy127
 refine Za rfl (by simp [Nat.add_assoc, hO, hT82, ehy127]; rfl) ?_
 obtain ⟨y128, hy128, hr⟩ := bs hr
 have ehy128 := Zlp hy128
 simp only [E83, R83, nf, nfs] at ehy128
 obtain ⟨_, u129, hr⟩ := bs hr
 have u129_0 := ZG u129
 have n1_u129_0 : y127.length + y128.length ≤ 140737488355328 := by omega
 have n2_u129_0 : y127.length + y128.length ≤ 9223372036854775807 := by omega
 refine Za rfl (by simp [Nat.add_assoc, hO, hT83, ehy128, n1_u129_0, n2_u129_0]; rfl) ?_
 refine Zd ?_
 refine Za rfl (by simp [Nat.add_assoc, ]; rfl) ?_
 refine Zj ?_
 refine Z2 (kq := ⟨[1, 2, 5, 25, 26, 27], [2, 16], []⟩) (H := fun (s : Int × (List Int)) => match s with | (p16, p17) => (⟨(und 1 ++ ([.one (.v (.bool a1)), .ptr 2 0 0 0 4] ++ (und 2 ++ ([.one (.ms 16 0 0 (p17.length) 1)] ++ (und 19 ++ ([.one (.slice .no (List.map Zo a0.2.1)), .one (.v (.int .i64 (a0.2.1.length : Int))), .one (.v (.int .i64 p16))] ++ (und 76)))))) : List PV), ([(2, ⟨0, 4, [[.v (.int .u32 a0.1), .slice .no (List.map Zo a0.2.1), .slice .no (List.map Zm a0.2.2.1), .v (.int .u32 a0.2.2.2)]], false, false⟩), (16, ⟨0, 1, Zk .u8 p17, false, true⟩)] : Boxes)⟩ : ASt)) (by kernel_rfl) hr (by simp [Nat.add_assoc, und, List.replicate, ]) ?_
 rintro ⟨p16, p17⟩ x138r hr138
 simp only [Zcv] at hr138
 unfold b81_1
 simp only [und, List.replicate, List.cons_append, List.nil_append]
 refine Za rfl (by simp [Nat.add_assoc, ]; rfl) ?_
 by_cases c139 : p16 < (a0.2.1.length : Int)
 ·skip
  have c139N := c139
  try simp at c139N
  first | have c139M : (_ = _) = True := eq_true c139N | have c139M := c139N
  rw [if_pos] at hr138
  rotate_left
  ·simp [Nat.add_assoc, c139, c139M]
  refine Ze (by simp [Nat.add_assoc, bV, c139, c139M]) ?_
  refine Zg ?_
  refine Zj ?_
  obtain ⟨x140, hx140, hr138⟩ := bs hr138
  obtain ⟨hx140a, hx140b⟩ := ZJ hx140
  have hx140c := Zz hx140b
  refine Za rfl (by simp [Nat.add_assoc, hx140a, hx140b, hx140c, c139, c139M]; rfl) ?_
  obtain ⟨y141, hy141, hr138⟩ := bs hr138
  have ehy141 := ZsO hy141
  simp only [E84, R84, nf, nfs] at ehy141
  obtain ⟨_, u142, hr138⟩ := bs hr138
  have u142_0 := ZG u142
  have n1_u142_0 : p17.length + y141.length ≤ 140737488355328 := by omega
  have n2_u142_0 : p17.length + y141.length ≤ 9223372036854775807 := by omega
  refine Za rfl (by simp [Nat.add_assoc, hO, hT84, ehy141, n1_u142_0, n2_u142_0, c139, c139M]; rfl) ?_
  obtain ⟨y143, hy143, hr138⟩ := bs hr138
  have ehy143 := ZjF hy143
  simp only [E82, R82, nf, nfs] at ehy143
  obtain ⟨_, u144, hr138⟩ := bs hr138
  have u144_0 := ZG u144
  have n1_u144_0 : p17.length + (y141.length + y143.length) ≤ 140737488355328 := by
   have h := u144_0
   try simp at h
   omega
  have n2_u144_0 : p17.length + (y141.length + y143.length) ≤ 9223372036854775807 := by
   have h := u144_0
   try simp at h
   omega
  refine ZM rfl (by simp [Nat.add_assoc, hO, hT82, ehy143, n1_u144_0, n2_u144_0, c139, c139M]; rfl) ?_
  simp only [pq, reduceCtorEq]
  refine ZM rfl (by simp [Nat.add_assoc, c139, c139M]; rfl) ?_
  obtain rfl := Option.some.inj hr138
  simp only [pq, reduceCtorEq]
  simp [Nat.add_assoc, und, List.replicate, Nat.add_assoc, c139, c139M]
 ·skip
  have c139N := c139
  try simp at c139N
  first | have c139M : (_ = _) = True := eq_true c139N | have c139M := c139N
  rw [if_neg] at hr138
  rotate_left
  ·simp [Nat.add_assoc, c139, c139M]
  refine Zf (by simp [Nat.add_assoc, bV, c139, c139M]) ?_
  refine ZD ?_
  obtain ⟨r145, q145, rfl⟩ := ms hr138
  simp only [pq, reduceCtorEq]
  rintro rfl
  try simp only [pq, reduceCtorEq]
  unfold ZdQ at q145
  obtain ⟨y146, hy146, q145⟩ := bs q145
  have ehy146 := Zlp hy146
  simp only [E83, R83, nf, nfs] at ehy146
  obtain ⟨_, u147, q145⟩ := bs q145
  have u147_0 := ZG u147
  have n1_u147_0 : p17.length + y146.length ≤ 140737488355328 := by omega
  have n2_u147_0 : p17.length + y146.length ≤ 9223372036854775807 := by omega
  refine Za rfl (by simp [Nat.add_assoc, hO, hT83, ehy146, n1_u147_0, n2_u147_0, c139, c139M]; rfl) ?_
  refine Zd ?_
  refine Za rfl (by simp [Nat.add_assoc, c139, c139M]; rfl) ?_
  refine Zj ?_
  refine Z2 (kq := ⟨[1, 2, 5, 50, 51, 52], [2, 16], []⟩) (H := fun (s : Int × (List Int)) => match s with | (p37, p38) => (⟨(und 1 ++ ([.one (.v (.bool a1)), .ptr 2 0 0 0 4] ++ (und 2 ++ ([.one (.ms 16 0 0 (p38.length) 1)] ++ (und 44 ++ ([.one (.slice .no (List.map Zm a0.2.2.1)), .one (.v (.int .i64 (a0.2.2.1.length : Int))), .one (.v (.int .i64 p37))] ++ (und 51)))))) : List PV), ([(2, ⟨0, 4, [[.v (.int .u32 a0.1), .slice .no (List.map Zo a0.2.1), .slice .no (List.map Zm a0.2.2.1), .v (.int .u32 a0.2.2.2)]], false, false⟩), (16, ⟨0, 1, Zk .u8 p38, false, true⟩)] : Boxes)⟩ : ASt)) (by kernel_rfl) q145 (by simp [Nat.add_assoc, und, List.replicate, c139, c139M]) ?_
  rintro ⟨p37, p38⟩ x156r hr156
  simp only [Zcu] at hr156
  unfold b81_2
  simp only [und, List.replicate, List.cons_append, List.nil_append]
  refine Za rfl (by simp [Nat.add_assoc, c139, c139M]; rfl) ?_
  by_cases c157 : p37 < (a0.2.2.1.length : Int)
  ·skip
   have c157N := c157
   try simp at c157N
   first | have c157M : (_ = _) = True := eq_true c157N | have c157M := c157N
   rw [if_pos] at hr156
   rotate_left
   ·simp [Nat.add_assoc, c139, c139M, c157, c157M]
   refine Ze (by simp [Nat.add_assoc, bV, c139, c139M, c157, c157M]) ?_
   refine Zg ?_
   refine Zj ?_
   obtain ⟨x158, hx158, hr156⟩ := bs hr156
   obtain ⟨hx158a, hx158b⟩ := ZJ hx158
   have hx158c := Zz hx158b
   refine Za rfl (by simp [Nat.add_assoc, hx158a, hx158b, hx158c, c139, c139M, c157, c157M]; rfl) ?_
   obtain ⟨y159, hy159, hr156⟩ := bs hr156
   have ehy159 := Zp5 hy159
   simp only [E85, R85, nf, nfs] at ehy159
   obtain ⟨_, u160, hr156⟩ := bs hr156
   have u160_0 := ZG u160
   have n1_u160_0 : p38.length + y159.length ≤ 140737488355328 := by omega
   have n2_u160_0 : p38.length + y159.length ≤ 9223372036854775807 := by omega
   refine Za rfl (by simp [Nat.add_assoc, hO, hT85, ehy159, n1_u160_0, n2_u160_0, c139, c139M, c157, c157M]; rfl) ?_
   obtain ⟨y161, hy161, hr156⟩ := bs hr156
   have ehy161 := Zp6 hy161
   simp only [E86, R86, nf, nfs] at ehy161
   obtain ⟨_, u162, hr156⟩ := bs hr156
   have u162_0 := ZG u162
   have n1_u162_0 : p38.length + (y159.length + y161.length) ≤ 140737488355328 := by
    have h := u162_0
    try simp at h
    omega
   have n2_u162_0 : p38.length + (y159.length + y161.length) ≤ 9223372036854775807 := by
    have h := u162_0
    try simp at h
    omega
   refine ZM rfl (by simp [Nat.add_assoc, hO, hT86, ehy161, n1_u162_0, n2_u162_0, c139, c139M, c157, c157M]; rfl) ?_
   simp only [pq, reduceCtorEq]
   refine ZM rfl (by simp [Nat.add_assoc, c139, c139M, c157, c157M]; rfl) ?_
   obtain rfl := Option.some.inj hr156
   simp only [pq, reduceCtorEq]
   simp [Nat.add_assoc, und, List.replicate, Nat.add_assoc, c139, c139M, c157, c157M]
  ·skip
   have c157N := c157
   try simp at c157N
   first | have c157M : (_ = _) = True := eq_true c157N | have c157M := c157N
   rw [if_neg] at hr156
   rotate_left
   ·simp [Nat.add_assoc, c139, c139M, c157, c157M]
   refine Zf (by simp [Nat.add_assoc, bV, c139, c139M, c157, c157M]) ?_
   refine ZD ?_
   obtain ⟨r163, q163, rfl⟩ := ms hr156
   simp only [pq, reduceCtorEq]
   rintro rfl
   try simp only [pq, reduceCtorEq]
   unfold ZdP at q163
   obtain ⟨y164, hy164, q163⟩ := bs q163
   have ehy164 := ZjF hy164
   simp only [E82, R82, nf, nfs] at ehy164
   obtain ⟨_, u165, q163⟩ := bs q163
   have u165_0 := ZG u165
   have n1_u165_0 : p38.length + y164.length ≤ 140737488355328 := by omega
   have n2_u165_0 : p38.length + y164.length ≤ 9223372036854775807 := by omega
   refine Za rfl (by simp [Nat.add_assoc, hO, hT82, ehy164, n1_u165_0, n2_u165_0, c139, c139M, c157, c157M]; rfl) ?_
   refine Zd ?_
   refine Za rfl (by simp [Nat.add_assoc, c139, c139M, c157, c157M]; rfl) ?_
   by_cases c166 : a1 = true
   ·skip
    rw [if_neg (not_not_intro c166)] at q163
    refine Zf (by simp [Nat.add_assoc, bV, c139, c139M, c157, c157M, c166]) ?_
    refine Zg ?_
    refine Zd ?_
    refine Za rfl (by simp [Nat.add_assoc, c139, c139M, c157, c157M, c166]; rfl) ?_
    refine Zj ?_
    refine Z2 (kq := ⟨[5, 77, 78, 79], [16], []⟩) (H := fun (s : Int × (List Int)) => match s with | (p80, p81) => (⟨(und 5 ++ ([.one (.ms 16 0 0 (p81.length) 1)] ++ (und 71 ++ ([.one (.slice .no (List.map Zo a0.2.1)), .one (.v (.int .i64 (a0.2.1.length : Int))), .one (.v (.int .i64 p80))] ++ (und 24)))) : List PV), ([(16, ⟨0, 1, Zk .u8 p81, false, true⟩)] : Boxes)⟩ : ASt)) (by kernel_rfl) q163 (by simp [Nat.add_assoc, und, List.replicate, c139, c139M, c157, c157M, c166]) ?_
    rintro ⟨p80, p81⟩ x185r hr185
    simp only [Zct] at hr185
    unfold b81_3
    simp only [und, List.replicate, List.cons_append, List.nil_append]
    refine Za rfl (by simp [Nat.add_assoc, c139, c139M, c157, c157M, c166]; rfl) ?_
    by_cases c186 : p80 < (a0.2.1.length : Int)
    ·skip
     have c186N := c186
     try simp at c186N
     first | have c186M : (_ = _) = True := eq_true c186N | have c186M := c186N
     rw [if_pos] at hr185
     rotate_left
     ·simp [Nat.add_assoc, c139, c139M, c157, c157M, c166, c186, c186M]
     refine Ze (by simp [Nat.add_assoc, bV, c139, c139M, c157, c157M, c166, c186, c186M]) ?_
     refine Zg ?_
     refine Zj ?_
     obtain ⟨x187, hx187, hr185⟩ := bs hr185
     obtain ⟨hx187a, hx187b⟩ := ZJ hx187
     have hx187c := Zz hx187b
     refine Za rfl (by simp [Nat.add_assoc, hx187a, hx187b, hx187c, c139, c139M, c157, c157M, c166, c186, c186M]; rfl) ?_
     obtain ⟨y188, hy188, hr185⟩ := bs hr185
     have ehy188 := Zlp hy188
     simp only [E83, R83, nf, nfs] at ehy188
     obtain ⟨_, u189, hr185⟩ := bs hr185
     have u189_0 := ZG u189
     have n1_u189_0 : p81.length + y188.length ≤ 140737488355328 := by omega
     have n2_u189_0 : p81.length + y188.length ≤ 9223372036854775807 := by omega
     refine Za rfl (by simp [Nat.add_assoc, hO, hT83, ehy188, n1_u189_0, n2_u189_0, c139, c139M, c157, c157M, c166, c186, c186M]; rfl) ?_
     refine Za rfl (by simp [Nat.add_assoc, c139, c139M, c157, c157M, c166, c186, c186M]; rfl) ?_
     refine Zc1 ?_
     refine Z2 (kq := ⟨[5, 77, 78, 79, 91, 92, 93], [16], []⟩) (H := fun (s : Int × (List Int)) => match s with | (p109, p110) => (⟨(und 5 ++ ([.one (.ms 16 0 0 (p110.length) 1)] ++ (und 71 ++ ([.one (.slice .no (List.map Zo a0.2.1)), .one (.v (.int .i64 (a0.2.1.length : Int))), .one (.v (.int .i64 p80))] ++ (und 11 ++ ([.one (.slice .no (List.map Yf x187.2.2)), .one (.v (.int .i64 (x187.2.2.length : Int))), .one (.v (.int .i64 p109))] ++ (und 10)))))) : List PV), ([(16, ⟨0, 1, Zk .u8 p110, false, true⟩)] : Boxes)⟩ : ASt)) (by kernel_rfl) hr185 (by simp [Nat.add_assoc, und, List.replicate, c139, c139M, c157, c157M, c166, c186, c186M]) ?_
     rintro ⟨p109, p110⟩ x196r hr196
     simp only [Zbk] at hr196
     unfold b81_4
     simp only [und, List.replicate, List.cons_append, List.nil_append]
     refine Za rfl (by simp [Nat.add_assoc, c139, c139M, c157, c157M, c166, c186, c186M]; rfl) ?_
     by_cases c197 : p109 < (x187.2.2.length : Int)
     ·skip
      have c197N := c197
      try simp at c197N
      first | have c197M : (_ = _) = True := eq_true c197N | have c197M := c197N
      rw [if_pos] at hr196
      rotate_left
      ·simp [Nat.add_assoc, c139, c139M, c157, c157M, c166, c186, c186M, c197, c197M]
      refine Ze (by simp [Nat.add_assoc, bV, c139, c139M, c157, c157M, c166, c186, c186M, c197, c197M]) ?_
      refine Zg ?_
      refine Zj ?_
      obtain ⟨x198, hx198, hr196⟩ := bs hr196
      obtain ⟨hx198a, hx198b⟩ := ZJ hx198
      have hx198c := Zz hx198b
      refine Za rfl (by simp [Nat.add_assoc, hx198a, hx198b, hx198c, c139, c139M, c157, c157M, c166, c186, c186M, c197, c197M]; rfl) ?_
      obtain ⟨y199, hy199, hr196⟩ := bs hr196
      have ehy199 := Zp6 hy199
      simp only [E86, R86, nf, nfs] at ehy199
      obtain ⟨_, u200, hr196⟩ := bs hr196
      have u200_0 := ZG u200
      have n1_u200_0 : p110.length + y199.length ≤ 140737488355328 := by omega
      have n2_u200_0 : p110.length + y199.length ≤ 9223372036854775807 := by omega
      refine ZM rfl (by simp [Nat.add_assoc, hO, hT86, ehy199, n1_u200_0, n2_u200_0, c139, c139M, c157, c157M, c166, c186, c186M, c197, c197M]; rfl) ?_
      simp only [pq, reduceCtorEq]
      refine ZM rfl (by simp [Nat.add_assoc, c139, c139M, c157, c157M, c166, c186, c186M, c197, c197M]; rfl) ?_
      obtain rfl := Option.some.inj hr196
      simp only [pq, reduceCtorEq]
      simp [Nat.add_assoc, und, List.replicate, Nat.add_assoc, c139, c139M, c157, c157M, c166, c186, c186M, c197, c197M]
     ·skip
      have c197N := c197
      try simp at c197N
      first | have c197M : (_ = _) = True := eq_true c197N | have c197M := c197N
      rw [if_neg] at hr196
      rotate_left
      ·simp [Nat.add_assoc, c139, c139M, c157, c157M, c166, c186, c186M, c197, c197M]
      refine Zf (by simp [Nat.add_assoc, bV, c139, c139M, c157, c157M, c166, c186, c186M, c197, c197M]) ?_
      refine ZD ?_
      obtain ⟨r201, q201, rfl⟩ := ms hr196
      simp only [pq, reduceCtorEq]
      rintro rfl
      try simp only [pq, reduceCtorEq]
      unfold ZfV at q201
      refine ZM rfl (by simp [Nat.add_assoc, c139, c139M, c157, c157M, c166, c186, c186M, c197, c197M]; rfl) ?_
      obtain rfl := Option.some.inj q201
      simp only [pq, reduceCtorEq]
      simp [Nat.add_assoc, und, List.replicate, Nat.add_assoc, c139, c139M, c157, c157M, c166, c186, c186M, c197, c197M]
    ·skip
     have c186N := c186
     try simp at c186N
     first | have c186M : (_ = _) = True := eq_true c186N | have c186M := c186N
     rw [if_neg] at hr185
     rotate_left
     ·simp [Nat.add_assoc, c139, c139M, c157, c157M, c166, c186, c186M]
     refine Zf (by simp [Nat.add_assoc, bV, c139, c139M, c157, c157M, c166, c186, c186M]) ?_
     refine ZD ?_
     obtain ⟨r202, q202, rfl⟩ := ms hr185
     simp only [pq, reduceCtorEq]
     rintro rfl
     try simp only [pq, reduceCtorEq]
     unfold ZfU at q202
     refine Za rfl (by simp [Nat.add_assoc, c139, c139M, c157, c157M, c166, c186, c186M]; rfl) ?_
     refine Zh ?_
     obtain rfl := Option.some.inj q202
     simp [Nat.add_assoc, Zi, c139, c139M, c157, c157M, c166, c186, c186M, c139N, c157N, c186N]
   ·skip
    rw [if_pos c166] at q163
    refine Ze (by simp [Nat.add_assoc, bV, c139, c139M, c157, c157M, c166]) ?_
    refine Zd ?_
    refine Za rfl (by simp [Nat.add_assoc, c139, c139M, c157, c157M, c166]; rfl) ?_
    refine Zl ?_
    obtain rfl := Option.some.inj q163
    simp [Nat.add_assoc, Zi, c139, c139M, c157, c157M, c166, c139N, c157N]
def kp72 : Keep := fun i => if i = 4 then ⟨[1, 20, 21, 22], [1], []⟩ else if i = 10 then ⟨[1, 37, 38, 39], [1], []⟩ else if i = 15 then ⟨[1, 37, 38, 39, 48, 49, 50], [1], []⟩ else ⟨[], [], []⟩
theorem w72 {T : Tab} (hO : T.own = fun _ => []) (hT81 : T 81 = some G81) (a0 : Tapi_Tx) (x : Bool) (hr : Zc3 a0 = some x) : ∃ kp fl n, ZC tt T G kp fl n Try.f72 (E72 a0) = some (R72 a0 x) := by
 simp only [E72, R72]
 refine fnE (kp := kp72) (w := false) body72 (by simp) ?_
 unfold c72
 rw [Try.ntmps72]
 unfold Zc3 at hr
 refine Za rfl (by simp []; rfl) ?_
 refine Zd ?_
 by_cases c35 : 64 < (a0.2.1.length : Int)
 ·skip
  have c35N := c35
  try simp at c35N
  first | have c35M : (_ = _) = True := eq_true c35N | have c35M := c35N
  refine Za rfl (by simp [c35, c35M]; rfl) ?_
  rw [if_pos] at hr
  rotate_left
  ·simp [c35, c35M]
  refine Ze (by simp [bV, c35, c35M]) ?_
  refine Zd ?_
  refine Za rfl (by simp [c35, c35M]; rfl) ?_
  refine Zl ?_
  obtain rfl := Option.some.inj hr
  simp [Zi, c35, c35M, c35N]
 ·skip
  have c35N := c35
  try simp at c35N
  first | have c35M : (_ = _) = True := eq_true c35N | have c35M := c35N
  refine Za rfl (by simp [c35, c35M]; rfl) ?_
  by_cases c36 : 64 < (a0.2.2.1.length : Int)
  ·skip
   have c36N := c36
   try simp at c36N
   first | have c36M : (_ = _) = True := eq_true c36N | have c36M := c36N
   rw [if_pos] at hr
   rotate_left
   ·simp [c35, c35M, c36, c36M]
   refine Ze (by simp [bV, c35, c35M, c36, c36M]) ?_
   refine Zd ?_
   refine Za rfl (by simp [c35, c35M, c36, c36M]; rfl) ?_
   refine Zl ?_
   obtain rfl := Option.some.inj hr
   simp [Zi, c35, c35M, c36, c36M, c35N, c36N]
  ·skip
   have c36N := c36
   try simp at c36N
   first | have c36M : (_ = _) = True := eq_true c36N | have c36M := c36N
   rw [if_neg] at hr
   rotate_left
   ·simp [c35, c35M, c36, c36M]
   refine Zf (by simp [bV, c35, c35M, c36, c36M]) ?_
   refine Zg ?_
   refine Zd ?_
   refine Za rfl (by simp [c35, c35M, c36, c36M]; rfl) ?_
   refine Zj ?_
   refine Z2 (kq := ⟨[1, 20, 21, 22], [1], []⟩) (H := fun (s : Int) => match s with | p4 => (⟨(und 1 ++ ([.ptr 1 0 0 0 4] ++ (und 18 ++ ([.one (.slice .no (List.map Zm a0.2.2.1)), .one (.v (.int .i64 (a0.2.2.1.length : Int))), .one (.v (.int .i64 p4))] ++ (und 40)))) : List PV), ([(1, ⟨0, 4, [[.v (.int .u32 a0.1), .slice .no (List.map Zo a0.2.1), .slice .no (List.map Zm a0.2.2.1), .v (.int .u32 a0.2.2.2)]], false, false⟩)] : Boxes)⟩ : ASt)) (by kernel_rfl) hr (by simp [und, List.replicate, c35, c35M, c36, c36M]) ?_
   rintro p4 x43r hr43
   simp only [ZcG] at hr43
   unfold b72_1
   simp only [und, List.replicate, List.cons_append, List.nil_append]
   refine Za rfl (by simp [c35, c35M, c36, c36M]; rfl) ?_
   by_cases c44 : p4 < (a0.2.2.1.length : Int)
   ·skip
    have c44N := c44
    try simp at c44N
    first | have c44M : (_ = _) = True := eq_true c44N | have c44M := c44N
    rw [if_pos] at hr43
    rotate_left
    ·simp [c35, c35M, c36, c36M, c44, c44M]
    refine Ze (by simp [bV, c35, c35M, c36, c36M, c44, c44M]) ?_
    refine Zg ?_
    refine Zj ?_
    obtain ⟨x45, hx45, hr43⟩ := bs hr43
    obtain ⟨hx45a, hx45b⟩ := ZJ hx45
    have hx45c := Zz hx45b
    refine Za rfl (by simp [hx45a, hx45b, hx45c, c35, c35M, c36, c36M, c44, c44M]; rfl) ?_
    by_cases c46 : x45.1 < 0
    ·skip
     refine Za rfl (by simp [c35, c35M, c36, c36M, c44, c44M, c46]; rfl) ?_
     rw [if_pos] at hr43
     rotate_left
     ·simp [c35, c35M, c36, c36M, c44, c44M, c46]
     refine Zy (by simp [bV, c35, c35M, c36, c36M, c44, c44M, c46]) ?_
     refine Za rfl (by simp [c35, c35M, c36, c36M, c44, c44M, c46]; rfl) ?_
     refine Zh ?_
     obtain rfl := Option.some.inj hr43
     simp only [pq, reduceCtorEq]
     rintro rfl
     simp [Zi, c35, c35M, c36, c36M, c44, c44M, c46, c35N, c36N, c44N]
    ·skip
     refine Za rfl (by simp [c35, c35M, c36, c36M, c44, c44M, c46]; rfl) ?_
     by_cases c47 : 520 < (x45.2.length : Int)
     ·skip
      have c47N := c47
      try simp at c47N
      first | have c47M : (_ = _) = True := eq_true c47N | have c47M := c47N
      rw [if_pos] at hr43
      rotate_left
      ·simp [c35, c35M, c36, c36M, c44, c44M, c46, c47, c47M]
      refine Zy (by simp [bV, c35, c35M, c36, c36M, c44, c44M, c46, c47, c47M]) ?_
      refine Za rfl (by simp [c35, c35M, c36, c36M, c44, c44M, c46, c47, c47M]; rfl) ?_
      refine Zh ?_
      obtain rfl := Option.some.inj hr43
      simp only [pq, reduceCtorEq]
      rintro rfl
      simp [Zi, c35, c35M, c36, c36M, c44, c44M, c46, c47, c47M, c35N, c36N, c44N, c47N]
     ·skip
      have c47N := c47
      try simp at c47N
      first | have c47M : (_ = _) = True := eq_true c47N | have c47M := c47N
      rw [if_neg] at hr43
      rotate_left
      ·simp [c35, c35M, c36, c36M, c44, c44M, c46, c47, c47M]
      refine ZI (by simp [bV, c35, c35M, c36, c36M, c44, c44M, c46, c47, c47M]) ?_
      refine Yb ?_
      simp only [pq, reduceCtorEq]
      refine ZM rfl (by simp [c35, c35M, c36, c36M, c44, c44M, c46, c47, c47M]; rfl) ?_
      obtain rfl := Option.some.inj hr43
      simp only [pq, reduceCtorEq]
      simp [und, List.replicate, Nat.add_assoc, c35, c35M, c36, c36M, c44, c44M, c46, c47, c47M]
   ·skip
    have c44N := c44
    try simp at c44N
    first | have c44M : (_ = _) = True := eq_true c44N | have c44M := c44N
    rw [if_neg] at hr43
    rotate_left
    ·simp [c35, c35M, c36, c36M, c44, c44M]
    refine Zf (by simp [bV, c35, c35M, c36, c36M, c44, c44M]) ?_
    refine ZD ?_
    obtain ⟨r48, q48, rfl⟩ := ms hr43
    simp only [pq, reduceCtorEq]
    rintro rfl
    try simp only [pq, reduceCtorEq]
    unfold ZfE at q48
    refine Zd ?_
    refine Za rfl (by simp [c35, c35M, c36, c36M, c44, c44M]; rfl) ?_
    refine Zj ?_
    refine Z2 (kq := ⟨[1, 37, 38, 39], [1], []⟩) (H := fun (s : Int) => match s with | p19 => (⟨(und 1 ++ ([.ptr 1 0 0 0 4] ++ (und 35 ++ ([.one (.slice .no (List.map Zo a0.2.1)), .one (.v (.int .i64 (a0.2.1.length : Int))), .one (.v (.int .i64 p19))] ++ (und 23)))) : List PV), ([(1, ⟨0, 4, [[.v (.int .u32 a0.1), .slice .no (List.map Zo a0.2.1), .slice .no (List.map Zm a0.2.2.1), .v (.int .u32 a0.2.2.2)]], false, false⟩)] : Boxes)⟩ : ASt)) (by kernel_rfl) q48 (by simp [und, List.replicate, c35, c35M, c36, c36M, c44, c44M]) ?_
    rintro p19 x64r hr64
    simp only [ZcF] at hr64
    unfold b72_2
    simp only [und, List.replicate, List.cons_append, List.nil_append]
    refine Za rfl (by simp [c35, c35M, c36, c36M, c44, c44M]; rfl) ?_
    by_cases c65 : p19 < (a0.2.1.length : Int)
    ·skip
     have c65N := c65
     try simp at c65N
     first | have c65M : (_ = _) = True := eq_true c65N | have c65M := c65N
     rw [if_pos] at hr64
     rotate_left
     ·simp [c35, c35M, c36, c36M, c44, c44M, c65, c65M]
     refine Ze (by simp [bV, c35, c35M, c36, c36M, c44, c44M, c65, c65M]) ?_
     refine Zg ?_
     refine Zj ?_
     obtain ⟨x66, hx66, hr64⟩ := bs hr64
     obtain ⟨hx66a, hx66b⟩ := ZJ hx66
     have hx66c := Zz hx66b
     refine Za rfl (by simp [hx66a, hx66b, hx66c, c35, c35M, c36, c36M, c44, c44M, c65, c65M]; rfl) ?_
     refine Zd ?_
     refine Za rfl (by simp [c35, c35M, c36, c36M, c44, c44M, c65, c65M]; rfl) ?_
     by_cases c67 : 32 < (x66.2.2.length : Int)
     ·skip
      have c67N := c67
      try simp at c67N
      first | have c67M : (_ = _) = True := eq_true c67N | have c67M := c67N
      rw [if_pos c67] at hr64
      refine Ze (by simp [bV, c35, c35M, c36, c36M, c44, c44M, c65, c65M, c67, c67M]) ?_
      refine Zd ?_
      refine Za rfl (by simp [c35, c35M, c36, c36M, c44, c44M, c65, c65M, c67, c67M]; rfl) ?_
      refine Zl ?_
      obtain rfl := Option.some.inj hr64
      simp only [pq, reduceCtorEq]
      rintro rfl
      simp [Zi, c35, c35M, c36, c36M, c44, c44M, c65, c65M, c67, c67M, c35N, c36N, c44N, c65N, c67N]
     ·skip
      have c67N := c67
      try simp at c67N
      first | have c67M : (_ = _) = True := eq_true c67N | have c67M := c67N
      rw [if_neg c67] at hr64
      refine Zf (by simp [bV, c35, c35M, c36, c36M, c44, c44M, c65, c65M, c67, c67M]) ?_
      refine Zg ?_
      refine Za rfl (by simp [c35, c35M, c36, c36M, c44, c44M, c65, c65M, c67, c67M]; rfl) ?_
      refine Zc1 ?_
      refine Z2 (kq := ⟨[1, 37, 38, 39, 48, 49, 50], [1], []⟩) (H := fun (s : Int) => match s with | p31 => (⟨(und 1 ++ ([.ptr 1 0 0 0 4] ++ (und 35 ++ ([.one (.slice .no (List.map Zo a0.2.1)), .one (.v (.int .i64 (a0.2.1.length : Int))), .one (.v (.int .i64 p19))] ++ (und 8 ++ ([.one (.slice .no (List.map Yf x66.2.2)), .one (.v (.int .i64 (x66.2.2.length : Int))), .one (.v (.int .i64 p31))] ++ (und 12)))))) : List PV), ([(1, ⟨0, 4, [[.v (.int .u32 a0.1), .slice .no (List.map Zo a0.2.1), .slice .no (List.map Zm a0.2.2.1), .v (.int .u32 a0.2.2.2)]], false, false⟩)] : Boxes)⟩ : ASt)) (by kernel_rfl) hr64 (by simp [und, List.replicate, c35, c35M, c36, c36M, c44, c44M, c65, c65M, c67, c67M]) ?_
      rintro p31 x73r hr73
      simp only [ZbO] at hr73
      unfold b72_3
      simp only [und, List.replicate, List.cons_append, List.nil_append]
      refine Za rfl (by simp [c35, c35M, c36, c36M, c44, c44M, c65, c65M, c67, c67M]; rfl) ?_
      by_cases c74 : p31 < (x66.2.2.length : Int)
      ·skip
       have c74N := c74
       try simp at c74N
       first | have c74M : (_ = _) = True := eq_true c74N | have c74M := c74N
       rw [if_pos] at hr73
       rotate_left
       ·simp [c35, c35M, c36, c36M, c44, c44M, c65, c65M, c67, c67M, c74, c74M]
       refine Ze (by simp [bV, c35, c35M, c36, c36M, c44, c44M, c65, c65M, c67, c67M, c74, c74M]) ?_
       refine Zg ?_
       refine Zj ?_
       obtain ⟨x75, hx75, hr73⟩ := bs hr73
       obtain ⟨hx75a, hx75b⟩ := ZJ hx75
       have hx75c := Zz hx75b
       refine Za rfl (by simp [hx75a, hx75b, hx75c, c35, c35M, c36, c36M, c44, c44M, c65, c65M, c67, c67M, c74, c74M]; rfl) ?_
       refine Za rfl (by simp [c35, c35M, c36, c36M, c44, c44M, c65, c65M, c67, c67M, c74, c74M]; rfl) ?_
       by_cases c76 : 520 < (x75.length : Int)
       ·skip
        have c76N := c76
        try simp at c76N
        first | have c76M : (_ = _) = True := eq_true c76N | have c76M := c76N
        rw [if_pos c76] at hr73
        refine Zy (by simp [bV, c35, c35M, c36, c36M, c44, c44M, c65, c65M, c67, c67M, c74, c74M, c76, c76M]) ?_
        refine Za rfl (by simp [c35, c35M, c36, c36M, c44, c44M, c65, c65M, c67, c67M, c74, c74M, c76, c76M]; rfl) ?_
        refine Zh ?_
        obtain rfl := Option.some.inj hr73
        simp only [pq, reduceCtorEq]
        rintro rfl
        simp only [pq, reduceCtorEq]
        rintro rfl
        simp [Zi, c35, c35M, c36, c36M, c44, c44M, c65, c65M, c67, c67M, c74, c74M, c76, c76M, c35N, c36N, c44N, c65N, c67N, c74N, c76N]
       ·skip
        have c76N := c76
        try simp at c76N
        first | have c76M : (_ = _) = True := eq_true c76N | have c76M := c76N
        rw [if_neg c76] at hr73
        refine ZI (by simp [bV, c35, c35M, c36, c36M, c44, c44M, c65, c65M, c67, c67M, c74, c74M, c76, c76M]) ?_
        refine Yb ?_
        simp only [pq, reduceCtorEq]
        refine ZM rfl (by simp [c35, c35M, c36, c36M, c44, c44M, c65, c65M, c67, c67M, c74, c74M, c76, c76M]; rfl) ?_
        obtain rfl := Option.some.inj hr73
        simp only [pq, reduceCtorEq]
        simp [und, List.replicate, Nat.add_assoc, c35, c35M, c36, c36M, c44, c44M, c65, c65M, c67, c67M, c74, c74M, c76, c76M]
      ·skip
       have c74N := c74
       try simp at c74N
       first | have c74M : (_ = _) = True := eq_true c74N | have c74M := c74N
       rw [if_neg] at hr73
       rotate_left
       ·simp [c35, c35M, c36, c36M, c44, c44M, c65, c65M, c67, c67M, c74, c74M]
       refine Zf (by simp [bV, c35, c35M, c36, c36M, c44, c44M, c65, c65M, c67, c67M, c74, c74M]) ?_
       refine ZD ?_
       obtain ⟨r77, q77, rfl⟩ := ms hr73
       simp only [pq, reduceCtorEq]
       rintro rfl
       try simp only [pq, reduceCtorEq]
       unfold Zhm at q77
       refine ZM rfl (by simp [c35, c35M, c36, c36M, c44, c44M, c65, c65M, c67, c67M, c74, c74M]; rfl) ?_
       obtain rfl := Option.some.inj q77
       simp only [pq, reduceCtorEq]
       simp [und, List.replicate, Nat.add_assoc, c35, c35M, c36, c36M, c44, c44M, c65, c65M, c67, c67M, c74, c74M]
    ·skip
     have c65N := c65
     try simp at c65N
     first | have c65M : (_ = _) = True := eq_true c65N | have c65M := c65N
     rw [if_neg] at hr64
     rotate_left
     ·simp [c35, c35M, c36, c36M, c44, c44M, c65, c65M]
     refine Zf (by simp [bV, c35, c35M, c36, c36M, c44, c44M, c65, c65M]) ?_
     refine ZD ?_
     obtain ⟨r78, q78, rfl⟩ := ms hr64
     simp only [pq, reduceCtorEq]
     rintro rfl
     try simp only [pq, reduceCtorEq]
     unfold ZfD at q78
     obtain ⟨y79, hy79, q78⟩ := bs q78
     have ehy79 := ZsP hy79
     simp only [E81, R81, nf, nfs] at ehy79
     refine Za rfl (by simp [hO, hT81, ehy79, c35, c35M, c36, c36M, c44, c44M, c65, c65M]; rfl) ?_
     refine Zh ?_
     obtain rfl := Option.some.inj q78
     simp [Zi, hO, hT81, ehy79, c35, c35M, c36, c36M, c44, c44M, c65, c65M, c35N, c36N, c44N, c65N]
end Go.Proofs.Ytbjhgolpnjokbaa
