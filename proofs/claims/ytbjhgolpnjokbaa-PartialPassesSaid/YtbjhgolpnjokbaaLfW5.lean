import Derived.Test.YtbjhgolpnjokbaaLfK
import Derived.Test.YtbjhgolpnjokbaaCode
namespace Go.Proofs.Ytbjhgolpnjokbaa
open Go.RowKit
open Go.Av
open Go.Lc
set_option maxRecDepth 100000
set_option linter.unusedSimpArgs false
set_option linter.unusedVariables false
set_option maxHeartbeats 4000000
variable {G : Glob}
def kp7 : Keep := fun i => if i = 3 then ⟨[0, 5, 11, 12], [37, 1000000], [(5, none, 37, 13)]⟩ else if i = 6 then ⟨[0, 5, 6, 7, 11, 12], [37, 1000000], []⟩ else if i = 1000007 then ⟨[0, 5, 6, 7, 11, 12], [37, 1000000], []⟩ else ⟨[], [], []⟩
theorem w7 {T : Tab} (hO : T.own = fun _ => []) (hT19 : T 19 = some G19) (hT20 : T 20 = some G20) (a0 : Tlightclientmill_Deck) (a1 : Tapi_Plan) (x : (List Tapi_Signed) × Tlightclientmill_Deck) (hr : Xz a0 a1 = some x) : ∃ kp fl n, ZC tt T G kp fl n Try.f7 (E7 (a0, a1)) = some (R7 (a0, a1) x) := by
 simp only [E7, R7]
 refine fnE (kp := kp7) (w := true) body7 (by simp) ?_
 unfold c7
 rw [Try.ntmps7]
 unfold Xz at hr
 refine Za rfl (by simp []; rfl) ?_
 refine Za rfl (by simp []; rfl) ?_
 refine Zd ?_
 refine Za rfl (by simp []; rfl) ?_
 refine Zj ?_
 refine Z2 (kq := ⟨[0, 5, 11, 12], [37, 1000000], [(5, none, 37, 13)]⟩) (H := fun (s : Int × Tlightclientmill_Deck × (List Tapi_Signed)) => match s with | (p69, p70, p71) => (⟨([.ptr 1000000 0 0 0 2] ++ (und 4 ++ ([.one (.ms 37 0 0 (p71.length) 13)] ++ (und 5 ++ ([.one (.v (.int .i64 (a1.1.2.1.length : Int))), .one (.v (.int .i64 p69))] ++ (und 27))))) : List PV), ([(37, ⟨0, 13, List.map ZX p71, false, true⟩), (1000000, ⟨0, 2, [[.slice .no (Zk .i64 p70.1), .v (.int .i64 p70.2)]], false, false⟩)] : Boxes)⟩ : ASt)) (by kernel_rfl) hr (by simp [und, List.replicate, ]) ?_
 rintro ⟨p69, p70, p71⟩ x194r hr194
 simp only [ZeK] at hr194
 unfold b7_1
 simp only [und, List.replicate, List.cons_append, List.nil_append]
 refine Za rfl (by simp []; rfl) ?_
 by_cases c195 : p69 < (a1.1.2.1.length : Int)
 ·skip
  have c195N := c195
  try simp at c195N
  first | have c195M : (_ = _) = True := eq_true c195N | have c195M := c195N
  rw [if_pos] at hr194
  rotate_left
  ·simp [c195, c195M]
  refine Ze (by simp [bV, c195, c195M]) ?_
  refine Zg ?_
  refine Zj ?_
  refine Za rfl (by simp [c195, c195M]; rfl) ?_
  refine Za rfl (by simp [c195, c195M]; rfl) ?_
  refine Zc1 ?_
  refine Z2 (kq := ⟨[0, 5, 6, 7, 11, 12], [37, 1000000], []⟩) (H := fun (s : Int × Tlightclientmill_Deck × (List Tapi_Signed)) => match s with | (p126, p127, p128) => (⟨([.ptr 1000000 0 0 0 2] ++ (und 4 ++ ([.one (.ms 37 0 0 (p128.length) 13), .one (.v (.int .i64 p69)), .one (.v (.int .u64 p126))] ++ (und 3 ++ ([.one (.v (.int .i64 (a1.1.2.1.length : Int))), .one (.v (.int .i64 p69))] ++ (und 27))))) : List PV), ([(37, ⟨0, 13, List.map ZX p128, false, true⟩), (1000000, ⟨0, 2, [[.slice .no (Zk .i64 p127.1), .v (.int .i64 p127.2)]], false, false⟩)] : Boxes)⟩ : ASt)) (by kernel_rfl) hr194 (by simp [und, List.replicate, c195, c195M]) ?_
  rintro ⟨p126, p127, p128⟩ x215r hr215
  simp only [ZeJ] at hr215
  unfold b7_2
  simp only [und, List.replicate, List.cons_append, List.nil_append]
  refine Zd ?_
  refine Za rfl (by simp [c195, c195M]; rfl) ?_
  by_cases c216 : p126 < 70
  ·skip
   rw [if_pos] at hr215
   rotate_left
   ·simp [c195, c195M, c216]
   refine Ze (by simp [bV, c195, c195M, c216]) ?_
   refine Zg ?_
   refine Zj ?_
   obtain ⟨y217, hy217, hr215⟩ := bs hr215
   have ehy217 := Ze3 hy217
   simp only [E19, R19, nf, nfs] at ehy217
   refine Za rfl (by simp [hO, hT19, ehy217, c195, c195M, c216]; rfl) ?_
   refine ZqG hr215 (.normal) (fun (s : Tlightclientmill_Deck × (List Tapi_Signed)) => match s with | (p145, p146) => (⟨([.ptr 1000000 0 0 0 2] ++ (und 4 ++ ([.one (.ms 37 0 0 (p146.length) 13), .one (.v (.int .i64 p69)), .one (.v (.int .u64 p126))] ++ (und 3 ++ ([.one (.v (.int .i64 (a1.1.2.1.length : Int))), .one (.v (.int .i64 p69))] ++ (und 27))))) : List PV), ([(37, ⟨0, 13, List.map ZX p146, false, true⟩), (1000000, ⟨0, 2, [[.slice .no (Zk .i64 p145.1), .v (.int .i64 p145.2)]], false, false⟩)] : Boxes)⟩ : ASt)) (fun (s : Tlightclientmill_Deck × (List Tapi_Signed)) => match s with | (p145, p146) => XZ p126 p145 p146) ?_ ?_
   ·skip
    rintro ⟨p145, p146⟩ hk225
    change XZ p126 p145 p146 = _ at hk225
    simp only [pq, reduceCtorEq]
    simp only [und, List.replicate, List.cons_append, List.nil_append]
    unfold XZ at hk225
    refine ZnX rfl (kq := ⟨[0, 5, 6, 7, 11, 12], [37, 1000000], []⟩) rfl (by simp [Zbq, c195, c195M, c216]; rfl) (by simp [c195, c195M, c216]; rfl) ?_
    obtain rfl := Option.some.inj hk225
    simp only [pq, reduceCtorEq]
    simp [und, List.replicate, Nat.add_assoc, c195, c195M, c216]
   ·skip
    intro J225
    simp only [pq, reduceCtorEq] at J225
    by_cases c226 : y217.1 = 0
    ·skip
     rw [if_pos c226] at hr215
     refine Zy (by simp [bV, c195, c195M, c216, eq_true c226]) ?_
     obtain ⟨y227, hy227, hr215⟩ := bs hr215
     have ehy227 := Zlo hy227
     simp only [E20, R20, nf, nfs] at ehy227
     obtain ⟨y228, hy228, hr215⟩ := bs hr215
     have ehy228 := Ze3 hy228
     simp only [E19, R19, nf, nfs] at ehy228
     obtain ⟨y229, hy229, hr215⟩ := bs hr215
     have ehy229 := Zlo hy229
     simp only [E20, R20, nf, nfs] at ehy229
     obtain ⟨y230, hy230, hr215⟩ := bs hr215
     have ehy230 := Ze3 hy230
     simp only [E19, R19, nf, nfs] at ehy230
     obtain ⟨y231, hy231, hr215⟩ := bs hr215
     have ehy231 := Zlo hy231
     simp only [E20, R20, nf, nfs] at ehy231
     obtain ⟨_, u232, hr215⟩ := bs hr215
     have u232_0 := ZG u232
     have n1_u232_0 : (p128.length + 1) * 104 ≤ 140737488355328 := by omega
     have n2_u232_0 : p128.length + 1 ≤ 9223372036854775807 := by omega
     refine ZM rfl (by simp [hO, hT20, ehy227, hT19, ehy228, ehy229, ehy230, ehy231, n1_u232_0, n2_u232_0, c195, c195M, c216, eq_true c226]; rfl) ?_
     simp only [pq, reduceCtorEq]
     exact Zdn (key := 1000007) (kq := ⟨[0, 5, 6, 7, 11, 12], [37, 1000000], []⟩) rfl rfl rfl (by simp [und, List.replicate, c195, c195M, c216, eq_true c226]) (J225 (y230.2, p128 ++ [(p69, y227, (y229, y231))]) hr215)
    ·skip
     rw [if_neg c226] at hr215
     refine ZI (by simp [bV, c195, c195M, c216, c226]) ?_
     refine Yb ?_
     simp only [pq, reduceCtorEq]
     exact Zdn (key := 1000007) (kq := ⟨[0, 5, 6, 7, 11, 12], [37, 1000000], []⟩) rfl rfl rfl (by simp [und, List.replicate, c195, c195M, c216, c226]) (J225 (y217.2, p128) hr215)
  ·skip
   rw [if_neg] at hr215
   rotate_left
   ·simp [c195, c195M, c216]
   refine Zf (by simp [bV, c195, c195M, c216]) ?_
   refine ZD ?_
   obtain ⟨r233, q233, rfl⟩ := ms hr215
   simp only [pq, reduceCtorEq]
   rintro rfl
   try simp only [pq, reduceCtorEq]
   unfold ZeI at q233
   refine ZM rfl (by simp [c195, c195M, c216]; rfl) ?_
   obtain rfl := Option.some.inj q233
   simp only [pq, reduceCtorEq]
   simp [und, List.replicate, Nat.add_assoc, c195, c195M, c216]
 ·skip
  have c195N := c195
  try simp at c195N
  first | have c195M : (_ = _) = True := eq_true c195N | have c195M := c195N
  rw [if_neg] at hr194
  rotate_left
  ·simp [c195, c195M]
  refine Zf (by simp [bV, c195, c195M]) ?_
  refine ZD ?_
  obtain ⟨r234, q234, rfl⟩ := ms hr194
  simp only [pq, reduceCtorEq]
  rintro rfl
  try simp only [pq, reduceCtorEq]
  unfold ZeH at q234
  refine Za rfl (by simp [c195, c195M]; rfl) ?_
  refine Zh ?_
  obtain rfl := Option.some.inj q234
  simp [Zi, c195, c195M, c195N]
def kp34 : Keep := fun i => ⟨[], [], []⟩
theorem w34 {T : Tab} (hO : T.own = fun _ => []) (hT62 : T 62 = some G62) (a0 : (List Int)) (x : (List Int)) (hr : Zap a0 = some x) : ∃ kp fl n, ZC tt T G kp fl n Try.f34 (E34 a0) = some (R34 a0 x) := by
 simp only [E34, R34]
 refine fnE (kp := kp34) (w := true) body34 (by simp) ?_
 unfold c34
 rw [Try.ntmps34]
 unfold Zap at hr
 refine Za rfl (by simp []; rfl) ?_
 obtain ⟨y2, hy2, hr⟩ := bs hr
 have ehy2 := ZpV hy2
 simp only [E62, R62, nf, nfs] at ehy2
 refine Za rfl (by simp [hO, hT62, ehy2]; rfl) ?_
 refine Zh ?_
 obtain rfl := Option.some.inj hr
 simp [Zi, hO, hT62, ehy2]
def kp15 : Keep := fun i => ⟨[], [], []⟩
theorem w15 {T : Tab} (hO : T.own = fun _ => []) (hT28 : T 28 = some G28) (hT33 : T 33 = some G33) (hT34 : T 34 = some G34) (a0 : (Arr 4)) (x : (List Int)) (hr : XD a0 = some x) : ∃ kp fl n, ZC tt T G kp fl n Try.f15 (E15 a0) = some (R15 a0 x) := by
 simp only [E15, R15]
 refine fnE (kp := kp15) (w := true) body15 (by simp) ?_
 unfold c15
 rw [Try.ntmps15]
 unfold XD at hr
 refine Za rfl (by simp []; rfl) ?_
 obtain ⟨y4, hy4, hr⟩ := bs hr
 have ehy4 := ZpU hy4
 simp only [E28, R28, nf, nfs] at ehy4
 obtain ⟨y5, hy5, hr⟩ := bs hr
 have ehy5 := Zp0 hy5
 simp only [E34, R34, nf, nfs] at ehy5
 obtain ⟨y6, hy6, hr⟩ := bs hr
 have ehy6 := Zln hy6
 simp only [E33, R33, nf, nfs] at ehy6
 refine Za rfl (by simp [hO, hT28, ehy4, hT34, ehy5, List.range, List.range.loop, hT33, ehy6]; rfl) ?_
 refine Zh ?_
 obtain rfl := Option.some.inj hr
 simp [Zi, hO, hT28, ehy4, hT34, ehy5, List.range, List.range.loop, hT33, ehy6]
def kp35 : Keep := fun i => if i = 2 then ⟨[0, 3], [12], [(3, none, 12, 1)]⟩ else ⟨[], [], []⟩
theorem w35 {T : Tab} (a0 : Int) (x : (List Int)) (hr : ZaX a0 = some x) : ∃ kp fl n, ZC tt T G kp fl n Try.f35 (E35 a0) = some (R35 a0 x) := by
 simp only [E35, R35]
 refine fnE (kp := kp35) (w := true) body35 (by simp) ?_
 unfold c35
 rw [Try.ntmps35]
 unfold ZaX at hr
 refine Za rfl (by simp []; rfl) ?_
 refine Za rfl (by simp []; rfl) ?_
 refine Zj ?_
 refine Z2 (kq := ⟨[0, 3], [12], [(3, none, 12, 1)]⟩) (H := fun (s : Int × (List Int)) => match s with | (p4, p5) => (⟨([.one (.v (.int .u32 p4))] ++ (und 2 ++ ([.one (.ms 12 0 0 (p5.length) 1)] ++ (und 10))) : List PV), ([(12, ⟨0, 1, Zk .u8 p5, false, true⟩)] : Boxes)⟩ : ASt)) (by kernel_rfl) hr (by simp [und, List.replicate, ]) ?_
 rintro ⟨p4, p5⟩ x12r hr12
 simp only [Lref08_Item_s1] at hr12
 unfold b35_1
 simp only [und, List.replicate, List.cons_append, List.nil_append]
 refine Zd ?_
 refine Za rfl (by simp []; rfl) ?_
 by_cases c13 : 0 < p4
 ·skip
  rw [if_pos] at hr12
  rotate_left
  ·simp [c13]
  refine Ze (by simp [bV, c13]) ?_
  refine Zg ?_
  refine Zj ?_
  obtain ⟨_, u14, hr12⟩ := bs hr12
  have u14_0 := ZG u14
  have n1_u14_0 : p5.length + 1 ≤ 140737488355328 := by omega
  have n2_u14_0 : p5.length + 1 ≤ 9223372036854775807 := by omega
  refine ZM rfl (by simp [n1_u14_0, n2_u14_0, c13]; rfl) ?_
  simp only [pq, reduceCtorEq]
  refine ZM rfl (by simp [c13]; rfl) ?_
  obtain rfl := Option.some.inj hr12
  simp only [pq, reduceCtorEq]
  simp [und, List.replicate, Nat.add_assoc, c13]
 ·skip
  rw [if_neg] at hr12
  rotate_left
  ·simp [c13]
  refine Zf (by simp [bV, c13]) ?_
  refine ZD ?_
  obtain ⟨r15, q15, rfl⟩ := ms hr12
  simp only [pq, reduceCtorEq]
  rintro rfl
  try simp only [pq, reduceCtorEq]
  unfold Zdt at q15
  refine Za rfl (by simp [c13]; rfl) ?_
  refine Zh ?_
  obtain rfl := Option.some.inj q15
  simp [Zi, c13]
def kp16 : Keep := fun i => ⟨[], [], []⟩
theorem w16 {T : Tab} (hO : T.own = fun _ => []) (hT33 : T 33 = some G33) (hT34 : T 34 = some G34) (hT35 : T 35 = some G35) (a0 : Int) (a1 : (List Int)) (x : (List Int)) (hr : X0 a0 a1 = some x) : ∃ kp fl n, ZC tt T G kp fl n Try.f16 (E16 (a0, a1)) = some (R16 (a0, a1) x) := by
 simp only [E16, R16]
 refine fnE (kp := kp16) (w := true) body16 (by simp) ?_
 unfold c16
 rw [Try.ntmps16]
 unfold X0 at hr
 refine Za rfl (by simp []; rfl) ?_
 obtain ⟨y4, hy4, hr⟩ := bs hr
 have ehy4 := ZsG hy4
 simp only [E35, R35, nf, nfs] at ehy4
 obtain ⟨y5, hy5, hr⟩ := bs hr
 have ehy5 := Zp0 hy5
 simp only [E34, R34, nf, nfs] at ehy5
 obtain ⟨y6, hy6, hr⟩ := bs hr
 have ehy6 := Zln hy6
 simp only [E33, R33, nf, nfs] at ehy6
 refine Za rfl (by simp [hO, hT35, ehy4, hT34, ehy5, List.range, List.range.loop, hT33, ehy6]; rfl) ?_
 refine Zh ?_
 obtain rfl := Option.some.inj hr
 simp [Zi, hO, hT35, ehy4, hT34, ehy5, List.range, List.range.loop, hT33, ehy6]
def kp17 : Keep := fun i => ⟨[], [], []⟩
theorem w17 {T : Tab} (a0 : Int) (x : (List Int)) (hr : XS a0 = some x) : ∃ kp fl n, ZC tt T G kp fl n Try.f17 (E17 a0) = some (R17 a0 x) := by
 simp only [E17, R17]
 refine fnE (kp := kp17) (w := true) body17 (by simp) ?_
 unfold c17
 rw [Try.ntmps17]
 unfold XS at hr
 refine Za rfl (by simp []; rfl) ?_
 refine Za rfl (by simp [List.range, List.range.loop]; rfl) ?_
 refine Zh ?_
 obtain rfl := Option.some.inj hr
 simp [Zi, List.range, List.range.loop]
def kp18 : Keep := fun i => if i = 5 then ⟨[0, 4, 5, 6, 15, 16, 17], [4, 5, 35, 49, 1000000], [(5, some 1, 49, 35), (5, some 4, 35, 37)]⟩ else if i = 1000021 then ⟨[4, 5], [4, 5, 35, 49, 67, 1000000], []⟩ else ⟨[], [], []⟩
theorem w18 {T : Tab} (hO : T.own = fun _ => []) (hT17 : T 17 = some G17) (hT19 : T 19 = some G19) (a0 : Tlightclientmill_Deck) (a1 : (List (List Int))) (x : Tapi_Plan × Tlightclientmill_Deck) (hr : Zbw a0 a1 = some x) : ∃ kp fl n, ZC tt T G kp fl n Try.f18 (E18 (a0, a1)) = some (R18 (a0, a1) x) := by
 simp only [E18, R18]
 refine fnE (kp := kp18) (w := true) body18 (by simp) ?_
 unfold c18
 rw [Try.ntmps18]
 unfold Zbw at hr
 refine Za rfl (by simp []; rfl) ?_
 refine Za rfl (by simp []; rfl) ?_
 obtain ⟨y44, hy44, hr⟩ := bs hr
 have ehy44 := Ze3 hy44
 simp only [E19, R19, nf, nfs] at ehy44
 refine Za rfl (by simp [hO, hT19, ehy44]; rfl) ?_
 refine Za rfl (by simp []; rfl) ?_
 refine Zd ?_
 refine Za rfl (by simp []; rfl) ?_
 refine Zj ?_
 refine Z2 (kq := ⟨[0, 4, 5, 6, 15, 16, 17], [4, 5, 35, 49, 1000000], [(5, some 1, 49, 35), (5, some 4, 35, 37)]⟩) (H := fun (s : Int × Int × Tlightclientmill_Deck × (List Tapi_Input) × (List Tapi_Coin)) => match s with | (p17, p18, p19, p20, p21) => (⟨([.ptr 1000000 0 0 0 2] ++ (und 3 ++ ([.ptr 4 0 0 0 7, .ptr 5 0 0 0 7, .one (.v (.int .i64 p17))] ++ (und 8 ++ ([.one (.slice .no (List.map Yf a1)), .one (.v (.int .i64 (a1.length : Int))), .one (.v (.int .i64 p18))] ++ (und 85))))) : List PV), ([(4, ⟨0, 7, [[.v (.int .u32 0), .slice .nil [], .slice .nil [], .v (.int .u32 0), .slice .nil [], .v (.int .i64 0), .v (.int .i64 0)]], false, false⟩), (5, ⟨0, 7, [[.v (.int .u32 1), .ms 49 0 0 (p20.length) 35, .slice .nil [], .v (.int .u32 (IntKind.u32.wrap (y44.1))), .ms 35 0 0 (p21.length) 37, .v (.int .i64 0), .v (.int .i64 0)]], false, false⟩), (35, ⟨0, 37, List.map ZL p21, false, true⟩), (49, ⟨0, 35, List.map Zo p20, false, true⟩), (1000000, ⟨0, 2, [[.slice .no (Zk .i64 p19.1), .v (.int .i64 p19.2)]], false, false⟩)] : Boxes)⟩ : ASt)) (by kernel_rfl) hr (by simp [und, List.replicate, ]) ?_
 rintro ⟨p17, p18, p19, p20, p21⟩ x56r hr56
 simp only [ZfX] at hr56
 unfold b18_1
 simp only [und, List.replicate, List.cons_append, List.nil_append]
 refine Za rfl (by simp []; rfl) ?_
 by_cases c57 : p18 < (a1.length : Int)
 ·skip
  have c57N := c57
  try simp at c57N
  first | have c57M : (_ = _) = True := eq_true c57N | have c57M := c57N
  rw [if_pos] at hr56
  rotate_left
  ·simp [c57, c57M]
  refine Ze (by simp [bV, c57, c57M]) ?_
  refine Zg ?_
  refine Zj ?_
  obtain ⟨x58, hx58, hr56⟩ := bs hr56
  obtain ⟨hx58a, hx58b⟩ := ZJ hx58
  have hx58c := Zz hx58b
  refine Za rfl (by simp [hx58a, hx58b, hx58c, c57, c57M]; rfl) ?_
  have ap59 := ZcE (k := .u8) (zA 32) (i := 0) (by decide) (1)
  have ap60 := ZcE (k := .u8) ((zA 32).put 0 1) (i := 1) (by decide) (IntKind.u8.wrap (p18))
  refine Za rfl (by simp [ap59, ap60, c57, c57M]; rfl) ?_
  obtain ⟨_, u61, hr56⟩ := bs hr56
  have u61_0 := ZG u61
  have n1_u61_0 : (p21.length + 1) * 88 ≤ 140737488355328 := by omega
  have n2_u61_0 : p21.length + 1 ≤ 9223372036854775807 := by omega
  refine Za rfl (by simp [n1_u61_0, n2_u61_0, c57, c57M]; rfl) ?_
  obtain ⟨y62, hy62, hr56⟩ := bs hr56
  have ehy62 := Ze3 hy62
  simp only [E19, R19, nf, nfs] at ehy62
  obtain ⟨j63, hj63, hr56⟩ := bs hr56
  obtain ⟨j63a, j63b, j63c⟩ := YM hj63
  have j63d : j63 ≤ 2 := by omega
  obtain ⟨x64, hx64, hr56⟩ := bs hr56
  have ghx64 := Zz hx64
  have mhx64 : (Zk .u32 ([4294967295, 0, 4294967293]))[j63]? = some [.v (.int .u32 x64)] := by rw [Zpp, hx64]; rfl
  simp only [Zla, ZlV] at mhx64
  have mghx64 := Zz mhx64
  obtain ⟨_, u65, hr56⟩ := bs hr56
  have u65_0 := ZG u65
  have n1_u65_0 : (p20.length + 1) * 64 ≤ 140737488355328 := by omega
  have n2_u65_0 : p20.length + 1 ≤ 9223372036854775807 := by omega
  refine ZR rfl (by simp [List.range, List.range.loop, hO, hT19, ehy62, j63a, j63b, j63c, j63d, hx64, ghx64, mhx64, mghx64, n1_u65_0, n2_u65_0, c57, c57M]; first | exact ⟨rfl, rfl⟩ | rfl) (by kernel_rfl) ?_
  refine ZM rfl (by simp [c57, c57M]; rfl) ?_
  simp only [pq, reduceCtorEq]
  refine ZM rfl (by simp [c57, c57M]; rfl) ?_
  obtain rfl := Option.some.inj hr56
  simp only [pq, reduceCtorEq]
  simp [und, List.replicate, Nat.add_assoc, c57, c57M]
 ·skip
  have c57N := c57
  try simp at c57N
  first | have c57M : (_ = _) = True := eq_true c57N | have c57M := c57N
  rw [if_neg] at hr56
  rotate_left
  ·simp [c57, c57M]
  refine Zf (by simp [bV, c57, c57M]) ?_
  refine ZD ?_
  obtain ⟨r66, q66, rfl⟩ := ms hr56
  simp only [pq, reduceCtorEq]
  rintro rfl
  try simp only [pq, reduceCtorEq]
  unfold ZfW at q66
  obtain ⟨y67, hy67, q66⟩ := bs q66
  have ehy67 := Ze3 hy67
  simp only [E19, R19, nf, nfs] at ehy67
  refine Za rfl (by simp [hO, hT19, ehy67, c57, c57M]; rfl) ?_
  obtain ⟨y68, hy68, q66⟩ := bs q66
  have ehy68 := Znr hy68
  simp only [E17, R17, nf, nfs] at ehy68
  obtain ⟨y69, hy69, q66⟩ := bs q66
  have ehy69 := Znr hy69
  simp only [E17, R17, nf, nfs] at ehy69
  refine ZR rfl (by simp [hO, hT17, ehy68, ehy69, List.range, List.range.loop, c57, c57M]; first | exact ⟨rfl, rfl⟩ | rfl) (by kernel_rfl) ?_
  refine Za rfl (by simp [c57, c57M]; rfl) ?_
  refine Zd ?_
  obtain ⟨y70, hy70, q66⟩ := bs q66
  have ehy70 := Ze3 hy70
  simp only [E19, R19, nf, nfs] at ehy70
  refine Za rfl (by simp [hO, hT19, ehy70, c57, c57M]; rfl) ?_
  refine Zj ?_
  refine Za rfl (by simp [c57, c57M]; rfl) ?_
  refine ZqG q66 (.normal) (fun (s : Int × Int × (List Tapi_Output) × Tlightclientmill_Deck) => match s with | (p33, p34, p35, p36) => (⟨(und 4 ++ ([.ptr 4 0 0 0 7, .ptr 5 0 0 0 7] ++ (und 97)) : List PV), ([(4, ⟨0, 7, [[.v (.int .u32 0), .slice .nil [], .slice .nil [], .v (.int .u32 0), .slice .nil [], .v (.int .i64 0), .v (.int .i64 0)]], false, false⟩), (5, ⟨0, 7, [[.v (.int .u32 1), .ms 49 0 0 (p20.length) 35, .ms 67 0 0 (p35.length) 2, .v (.int .u32 (IntKind.u32.wrap (y44.1))), .ms 35 0 0 (p21.length) 37, .v (.int .i64 p33), .v (.int .i64 p34)]], false, false⟩), (35, ⟨0, 37, List.map ZL p21, false, true⟩), (49, ⟨0, 35, List.map Zo p20, false, true⟩), (67, ⟨0, 2, List.map Zm p35, false, true⟩), (1000000, ⟨0, 2, [[.slice .no (Zk .i64 p36.1), .v (.int .i64 p36.2)]], false, false⟩)] : Boxes)⟩ : ASt)) (fun (s : Int × Int × (List Tapi_Output) × Tlightclientmill_Deck) => match s with | (p33, p34, p35, p36) => X7 p20 y44 p21 p33 p34 p35 p36) ?_ ?_
  ·skip
   rintro ⟨p33, p34, p35, p36⟩ hk74
   change X7 p20 y44 p21 p33 p34 p35 p36 = _ at hk74
   simp only [pq, reduceCtorEq]
   simp only [und, List.replicate, List.cons_append, List.nil_append]
   unfold X7 at hk74
   refine Zhl rfl (kq := ⟨[4, 5], [4, 5, 35, 49, 67, 1000000], []⟩) rfl (by simp [Zbq, c57, c57M]; rfl) (by simp [c57, c57M]; rfl) ?_
   refine Zh ?_
   obtain rfl := Option.some.inj hk74
   simp [Zi, c57, c57M, c57N]
  ·skip
   intro J74
   simp only [pq, reduceCtorEq] at J74
   by_cases c75 : y70.1 = 0
   ·skip
    rw [if_pos c75] at q66
    refine Zy (by simp [bV, c57, c57M, eq_true c75]) ?_
    refine ZM rfl (by simp [c57, c57M, eq_true c75]; rfl) ?_
    simp only [pq, reduceCtorEq]
    exact Zdn (key := 1000021) (kq := ⟨[4, 5], [4, 5, 35, 49, 67, 1000000], []⟩) rfl rfl rfl (by simp [und, List.replicate, c57, c57M, eq_true c75]) (J74 (y67.1, (-1), [(5000, y68), (IntKind.i64.wrap ((IntKind.i64.wrap (p17 - 5000)) - y67.1), y69)], y70.2) q66)
   ·skip
    rw [if_neg c75] at q66
    refine ZI (by simp [bV, c57, c57M, c75]) ?_
    refine Za rfl (by simp [c57, c57M, c75]; rfl) ?_
    by_cases c76 : y70.1 = 1
    ·skip
     rw [if_pos c76] at q66
     refine Zy (by simp [bV, c57, c57M, c75, eq_true c76]) ?_
     obtain ⟨y77, hy77, q66⟩ := bs q66
     have ehy77 := Ze3 hy77
     simp only [E19, R19, nf, nfs] at ehy77
     refine ZR rfl (by simp [hO, hT19, ehy77, c57, c57M, c75, eq_true c76]; first | exact ⟨rfl, rfl⟩ | rfl) (by kernel_rfl) ?_
     refine ZM rfl (by simp [c57, c57M, c75, eq_true c76]; rfl) ?_
     simp only [pq, reduceCtorEq]
     exact Zdn (key := 1000021) (kq := ⟨[4, 5], [4, 5, 35, 49, 67, 1000000], []⟩) rfl rfl rfl (by simp [und, List.replicate, c57, c57M, c75, eq_true c76]) (J74 (IntKind.i64.wrap ((IntKind.i64.wrap ((IntKind.i64.wrap (y67.1 + ((IntKind.i64.wrap ((IntKind.i64.wrap (p17 - 5000)) - y67.1), y69).1))) - 301)) - y77.1), 1, [(5000, y68), (IntKind.i64.wrap ((IntKind.i64.wrap (p17 - 5000)) - (IntKind.i64.wrap ((IntKind.i64.wrap ((IntKind.i64.wrap (y67.1 + ((IntKind.i64.wrap ((IntKind.i64.wrap (p17 - 5000)) - y67.1), y69).1))) - 301)) - y77.1))), (IntKind.i64.wrap ((IntKind.i64.wrap (p17 - 5000)) - y67.1), y69).2)], y77.2) q66)
    ·skip
     rw [if_neg c76] at q66
     refine ZI (by simp [bV, c57, c57M, c75, c76]) ?_
     refine Yb ?_
     simp only [pq, reduceCtorEq]
     exact Zdn (key := 1000021) (kq := ⟨[4, 5], [4, 5, 35, 49, 67, 1000000], []⟩) rfl rfl rfl (by simp [und, List.replicate, c57, c57M, c75, c76]) (J74 (y67.1, 1, [(5000, y68), (IntKind.i64.wrap ((IntKind.i64.wrap (p17 - 5000)) - y67.1), y69)], y70.2) q66)
def kp5 : Keep := fun i => ⟨[], [], []⟩
theorem w5 {T : Tab} (hO : T.own = fun _ => []) (hT7 : T 7 = some G7) (hT11 : T 11 = some G11) (hT12 : T 12 = some G12) (hT15 : T 15 = some G15) (hT16 : T 16 = some G16) (hT17 : T 17 = some G17) (hT18 : T 18 = some G18) (hT19 : T 19 = some G19) (a0 : Tlightclientmill_Deck) (x : Tapi_PartialTx × Tlightclientmill_Deck) (hr : ZaY a0 = some x) : ∃ kp fl n, ZC tt T G kp fl n Try.f5 (E5 a0) = some (R5 a0 x) := by
 simp only [E5, R5]
 refine fnE (kp := kp5) (w := false) body5 (by simp) ?_
 unfold c5
 rw [Try.ntmps5]
 unfold ZaY at hr
 refine Za rfl (by simp []; rfl) ?_
 obtain ⟨y13, hy13, hr⟩ := bs hr
 have ehy13 := ZfQ hy13
 simp only [E12, R12, nf, nfs] at ehy13
 obtain ⟨y14, hy14, hr⟩ := bs hr
 have ehy14 := ZfQ hy14
 simp only [E12, R12, nf, nfs] at ehy14
 obtain ⟨y15, hy15, hr⟩ := bs hr
 obtain rfl : y13 = y15 := Option.some.inj (hy13.symm.trans hy15)
 have ehy15 := ZfQ hy15
 simp only [E12, R12, nf, nfs] at ehy15
 obtain ⟨y16, hy16, hr⟩ := bs hr
 have ehy16 := ZpW hy16
 simp only [E11, R11, nf, nfs] at ehy16
 refine Za rfl (by simp [hO, hT12, ehy13, ehy14, ehy15, List.range, List.range.loop, hT11, ehy16]; rfl) ?_
 obtain ⟨y17, hy17, hr⟩ := bs hr
 obtain rfl : y14 = y17 := Option.some.inj (hy14.symm.trans hy17)
 have ehy17 := ZfQ hy17
 simp only [E12, R12, nf, nfs] at ehy17
 obtain ⟨y18, hy18, hr⟩ := bs hr
 have ehy18 := ZsF hy18
 simp only [E15, R15, nf, nfs] at ehy18
 obtain ⟨y19, hy19, hr⟩ := bs hr
 have ehy19 := ZsH hy19
 simp only [E16, R16, nf, nfs] at ehy19
 obtain ⟨y20, hy20, hr⟩ := bs hr
 have ehy20 := Znr hy20
 simp only [E17, R17, nf, nfs] at ehy20
 refine Za rfl (by simp [hO, hT12, ehy17, hT15, ehy18, hT16, ehy19, hT17, ehy20, List.range, List.range.loop]; rfl) ?_
 obtain ⟨y21, hy21, hr⟩ := bs hr
 have ehy21 := Ze3 hy21
 simp only [E19, R19, nf, nfs] at ehy21
 obtain ⟨_, u22, hr⟩ := bs hr
 obtain ⟨u22_0, u22_1⟩ := ZG u22
 have lu22_0 : IntKind.i64.wrap (1 + y21.1) ≤ ((3 : Nat) : Int) := by
  have h := u22_0
  try simp at h
  omega
 try simp only [Int.natCast_add] at lu22_0
 have sf23 : (IntKind.i64.wrap (1 + y21.1)).toNat ≤ [y18, y19, y20].length := by omega
 have sf24 : 0 ≤ IntKind.i64.wrap (1 + y21.1) := by omega
 have sf25 : (IntKind.i64.wrap (1 + y21.1)).toNat ≤ 3 := by omega
 have sf26 : 0 ≤ IntKind.i64.wrap (1 + y21.1) := by omega
 obtain ⟨y27, hy27, hr⟩ := bs hr
 have ehy27 := ZsI hy27
 simp only [E18, R18, nf, nfs] at ehy27
 refine Za rfl (by simp [hO, hT19, ehy21, u22_0, u22_1, lu22_0, sf23, sf24, sf25, sf26, hT18, ehy27]; rfl) ?_
 obtain ⟨y28, hy28, hr⟩ := bs hr
 have ehy28 := ZoZ hy28
 simp only [E7, R7, nf, nfs] at ehy28
 refine ZR rfl (by simp [hO, hT7, ehy28]; first | exact ⟨rfl, rfl⟩ | rfl) (by kernel_rfl) ?_
 refine Zh ?_
 obtain rfl := Option.some.inj hr
 simp [Zi, hO, hT7, ehy28]
def kp6 : Keep := fun i => ⟨[], [], []⟩
theorem w6 {T : Tab} (a0 : (List Int)) (x : Tlightclientmill_Deck) (hr : Zbu a0 = some x) : ∃ kp fl n, ZC tt T G kp fl n Try.f6 (E6 a0) = some (R6 a0 x) := by
 simp only [E6, R6]
 refine fnE (kp := kp6) (w := true) body6 (by simp) ?_
 unfold c6
 rw [Try.ntmps6]
 unfold Zbu at hr
 refine Za rfl (by simp []; rfl) ?_
 refine Za rfl (by simp []; rfl) ?_
 refine Zh ?_
 obtain rfl := Option.some.inj hr
 simp [Zi, ]
def kp46 : Keep := fun i => if i = 3 then ⟨[3, 6, 7, 8], [], []⟩ else ⟨[], [], []⟩
theorem w46 {T : Tab} (a0 : (List Int)) (x : Int) (hr : XM a0 = some x) : ∃ kp fl n, ZC tt T G kp fl n Try.f46 (E46 a0) = some (R46 a0 x) := by
 simp only [E46, R46]
 refine fnE (kp := kp46) (w := false) body46 (by simp) ?_
 unfold c46
 rw [Try.ntmps46]
 unfold XM at hr
 refine Za rfl (by simp []; rfl) ?_
 refine Za rfl (by simp []; rfl) ?_
 refine Zd ?_
 refine Za rfl (by simp []; rfl) ?_
 refine Zj ?_
 refine Z2 (kq := ⟨[3, 6, 7, 8], [], []⟩) (H := fun (s : Int) => match s with | p4 => (⟨(und 3 ++ ([.one (.v (.int .i64 0))] ++ (und 2 ++ ([.one (.slice .no (Zk .i64 a0)), .one (.v (.int .i64 (a0.length : Int))), .one (.v (.int .i64 p4))] ++ (und 9)))) : List PV), ([] : Boxes)⟩ : ASt)) (by kernel_rfl) hr (by simp [und, List.replicate, ]) ?_
 rintro p4 x12r hr12
 simp only [Xq] at hr12
 unfold b46_1
 simp only [und, List.replicate, List.cons_append, List.nil_append]
 refine Za rfl (by simp []; rfl) ?_
 by_cases c13 : p4 < (a0.length : Int)
 ·skip
  have c13N := c13
  try simp at c13N
  first | have c13M : (_ = _) = True := eq_true c13N | have c13M := c13N
  rw [if_pos] at hr12
  rotate_left
  ·simp [c13, c13M]
  refine Ze (by simp [bV, c13, c13M]) ?_
  refine Zg ?_
  refine Zj ?_
  obtain ⟨x14, hx14, hr12⟩ := bs hr12
  obtain ⟨hx14a, hx14b⟩ := ZJ hx14
  have hx14c := Zz hx14b
  refine Za rfl (by simp [hx14a, hx14b, hx14c, c13, c13M]; rfl) ?_
  refine Za rfl (by simp [c13, c13M]; rfl) ?_
  by_cases c15 : x14 = 0
  ·skip
   rw [if_neg (not_not_intro c15)] at hr12
   refine ZI (by simp [bV, c13, c13M, eq_true c15]) ?_
   refine Yb ?_
   simp only [pq, reduceCtorEq]
   refine ZM rfl (by simp [c13, c13M, eq_true c15]; rfl) ?_
   obtain rfl := Option.some.inj hr12
   simp only [pq, reduceCtorEq]
   simp [und, List.replicate, Nat.add_assoc, c13, c13M, eq_true c15]
  ·skip
   rw [if_pos c15] at hr12
   refine Zy (by simp [bV, c13, c13M, c15]) ?_
   refine Za rfl (by simp [c13, c13M, c15]; rfl) ?_
   refine Zh ?_
   obtain rfl := Option.some.inj hr12
   simp only [pq, reduceCtorEq]
   rintro rfl
   simp [Zi, c13, c13M, c15, c13N]
 ·skip
  have c13N := c13
  try simp at c13N
  first | have c13M : (_ = _) = True := eq_true c13N | have c13M := c13N
  rw [if_neg] at hr12
  rotate_left
  ·simp [c13, c13M]
  refine Zf (by simp [bV, c13, c13M]) ?_
  refine ZD ?_
  obtain ⟨r16, q16, rfl⟩ := ms hr12
  simp only [pq, reduceCtorEq]
  rintro rfl
  try simp only [pq, reduceCtorEq]
  unfold Lcmp_Or_of_int_k1 at q16
  refine Za rfl (by simp [c13, c13M]; rfl) ?_
  refine Zh ?_
  obtain rfl := Option.some.inj q16
  simp [Zi, c13, c13M, c13N]
def kp66 : Keep := fun i => ⟨[], [], []⟩
theorem w66 {T : Tab} (a0 : Int) (x : Bool) (hr : Y2 a0 = some x) : ∃ kp fl n, ZC tt T G kp fl n Try.f66 (E66 a0) = some (R66 a0 x) := by
 simp only [E66, R66]
 refine fnE (kp := kp66) (w := false) body66 (by simp) ?_
 unfold c66
 rw [Try.ntmps66]
 unfold Y2 at hr
 refine Za rfl (by simp []; rfl) ?_
 refine Za rfl (by simp []; rfl) ?_
 refine Zh ?_
 obtain rfl := Option.some.inj hr
 simp [Zi, ]
def kp47 : Keep := fun i => ⟨[], [], []⟩
theorem w47 {T : Tab} (hO : T.own = fun _ => []) (hT66 : T 66 = some G66) (a0 : Int) (a1 : Int) (x : Int) (hr : YO a0 a1 = some x) : ∃ kp fl n, ZC tt T G kp fl n Try.f47 (E47 (a0, a1)) = some (R47 (a0, a1) x) := by
 simp only [E47, R47]
 refine fnE (kp := kp47) (w := false) body47 (by simp) ?_
 unfold c47
 rw [Try.ntmps47]
 unfold YO at hr
 refine Za rfl (by simp []; rfl) ?_
 obtain ⟨y3, hy3, hr⟩ := bs hr
 have ehy3 := Zp1 hy3
 simp only [E66, R66, nf, nfs] at ehy3
 refine Za rfl (by simp [hO, hT66, ehy3]; rfl) ?_
 obtain ⟨y4, hy4, hr⟩ := bs hr
 have ehy4 := Zp1 hy4
 simp only [E66, R66, nf, nfs] at ehy4
 refine Za rfl (by simp [hO, hT66, ehy4]; rfl) ?_
 refine Zd ?_
 refine Za rfl (by simp []; rfl) ?_
 by_cases c5 : y3 = true
 ·skip
  rw [if_pos c5] at hr
  refine Ze (by simp [bV, c5]) ?_
  refine Zd ?_
  refine Zd ?_
  refine Za rfl (by simp [c5]; rfl) ?_
  by_cases c6 : y4 = true
  ·skip
   rw [if_pos c6] at hr
   refine Ze (by simp [bV, c5, c6]) ?_
   refine Zd ?_
   refine Za rfl (by simp [c5, c6]; rfl) ?_
   refine Zl ?_
   obtain rfl := Option.some.inj hr
   simp [Zi, c5, c6]
  ·skip
   rw [if_neg c6] at hr
   refine Zf (by simp [bV, c5, c6]) ?_
   refine Zg ?_
   refine Zd ?_
   refine Za rfl (by simp [c5, c6]; rfl) ?_
   refine Zl ?_
   obtain rfl := Option.some.inj hr
   simp [Zi, c5, c6]
 ·skip
  rw [if_neg c5] at hr
  refine Zf (by simp [bV, c5]) ?_
  refine Zg ?_
  refine Zd ?_
  refine Za rfl (by simp [c5]; rfl) ?_
  by_cases c7 : y4 = true
  ·skip
   rw [if_pos c7] at hr
   refine Ze (by simp [bV, c5, c7]) ?_
   refine Zd ?_
   refine Za rfl (by simp [c5, c7]; rfl) ?_
   refine Zl ?_
   obtain rfl := Option.some.inj hr
   simp [Zi, c5, c7]
  ·skip
   rw [if_neg c7] at hr
   refine Zf (by simp [bV, c5, c7]) ?_
   refine Zg ?_
   refine Zd ?_
   refine Za rfl (by simp [c5, c7]; rfl) ?_
   by_cases c8 : a0 < a1
   ·skip
    rw [if_pos c8] at hr
    refine Ze (by simp [bV, c5, c7, c8]) ?_
    refine Zd ?_
    refine Za rfl (by simp [c5, c7, c8]; rfl) ?_
    refine Zl ?_
    obtain rfl := Option.some.inj hr
    simp [Zi, c5, c7, c8]
   ·skip
    rw [if_neg c8] at hr
    refine Zf (by simp [bV, c5, c7, c8]) ?_
    refine Zg ?_
    refine Zd ?_
    refine Za rfl (by simp [c5, c7, c8]; rfl) ?_
    by_cases c9 : a1 < a0
    ·skip
     rw [if_pos c9] at hr
     refine Ze (by simp [bV, c5, c7, c8, c9]) ?_
     refine Zd ?_
     refine Za rfl (by simp [c5, c7, c8, c9]; rfl) ?_
     refine Zl ?_
     obtain rfl := Option.some.inj hr
     simp [Zi, c5, c7, c8, c9]
    ·skip
     rw [if_neg c9] at hr
     refine Zf (by simp [bV, c5, c7, c8, c9]) ?_
     refine Zg ?_
     refine Za rfl (by simp [c5, c7, c8, c9]; rfl) ?_
     refine Zh ?_
     obtain rfl := Option.some.inj hr
     simp [Zi, c5, c7, c8, c9]
def kp48 : Keep := fun i => if i = 2 then ⟨[2, 3, 5], [2, 3], []⟩ else ⟨[], [], []⟩
theorem w48 {T : Tab} (a0 : (Arr 4)) (a1 : (Arr 4)) (x : Int) (hr : ZbH a0 a1 = some x) : ∃ kp fl n, ZC tt T G kp fl n Try.f48 (E48 (a0, a1)) = some (R48 (a0, a1) x) := by
 simp only [E48, R48]
 refine fnE (kp := kp48) (w := false) body48 (by simp) ?_
 unfold c48
 rw [Try.ntmps48]
 unfold ZbH at hr
 refine Za rfl (by simp []; rfl) ?_
 refine Zd ?_
 refine Za rfl (by simp []; rfl) ?_
 refine Zj ?_
 refine Z2 (kq := ⟨[2, 3, 5], [2, 3], []⟩) (H := fun (s : Int) => match s with | p3 => (⟨(und 2 ++ ([.ptr 2 0 0 0 4, .ptr 3 0 0 0 4] ++ (und 1 ++ ([.one (.v (.int .i64 p3))] ++ (und 18)))) : List PV), ([(2, ⟨0, 4, [arC .u64 a0], false, false⟩), (3, ⟨0, 4, [arC .u64 a1], false, false⟩)] : Boxes)⟩ : ASt)) (by kernel_rfl) hr (by simp [und, List.replicate, ]) ?_
 rintro p3 x20r hr20
 simp only [Za8] at hr20
 unfold b48_1
 simp only [und, List.replicate, List.cons_append, List.nil_append]
 refine Zd ?_
 refine Za rfl (by simp []; rfl) ?_
 by_cases c21 : 0 ≤ p3
 ·skip
  rw [if_pos] at hr20
  rotate_left
  ·simp [c21]
  refine Ze (by simp [bV, c21]) ?_
  refine Zg ?_
  refine Zj ?_
  refine Zd ?_
  obtain ⟨j22, hj22, hr20⟩ := bs hr20
  obtain ⟨j22a, j22b, j22c⟩ := YM hj22
  have j22d : j22 ≤ 3 := by omega
  have ar23 := ZcD (k := .u64) (a0) (i := j22) j22c
  have as24 := Zeq (k := .u64) (a0) (i := j22) j22c
  obtain ⟨j22a, j22b, j22c⟩ := YM hj22
  have j22d : j22 ≤ 3 := by omega
  have ar25 := ZcD (k := .u64) (a1) (i := j22) j22c
  have as26 := Zeq (k := .u64) (a1) (i := j22) j22c
  refine ZR rfl (by simp [j22a, j22b, j22c, j22d, ar23, as24, ar25, as26, c21]; first | exact ⟨rfl, rfl⟩ | rfl) (by kernel_rfl) ?_
  by_cases c27 : a0.at j22 < a1.at j22
  ·skip
   rw [if_pos] at hr20
   rotate_left
   ·simp [c21, c27]
   refine Ze (by simp [bV, c21, c27]) ?_
   refine Zd ?_
   refine Za rfl (by simp [c21, c27]; rfl) ?_
   refine Zl ?_
   obtain rfl := Option.some.inj hr20
   simp only [pq, reduceCtorEq]
   rintro rfl
   simp [Zi, c21, c27]
  ·skip
   rw [if_neg] at hr20
   rotate_left
   ·simp [c21, c27]
   refine Zf (by simp [bV, c21, c27]) ?_
   refine Zg ?_
   obtain ⟨j22a, j22b, j22c⟩ := YM hj22
   have j22d : j22 ≤ 3 := by omega
   have ar28 := ZcD (k := .u64) (a0) (i := j22) j22c
   have as29 := Zeq (k := .u64) (a0) (i := j22) j22c
   obtain ⟨j22a, j22b, j22c⟩ := YM hj22
   have j22d : j22 ≤ 3 := by omega
   have ar30 := ZcD (k := .u64) (a1) (i := j22) j22c
   have as31 := Zeq (k := .u64) (a1) (i := j22) j22c
   refine ZR rfl (by simp [j22a, j22b, j22c, j22d, ar28, as29, ar30, as31, c21, c27]; first | exact ⟨rfl, rfl⟩ | rfl) (by kernel_rfl) ?_
   by_cases c32 : a1.at j22 < a0.at j22
   ·skip
    rw [if_pos] at hr20
    rotate_left
    ·simp [c21, c27, c32]
    refine Zy (by simp [bV, c21, c27, c32]) ?_
    refine Za rfl (by simp [c21, c27, c32]; rfl) ?_
    refine Zh ?_
    obtain rfl := Option.some.inj hr20
    simp only [pq, reduceCtorEq]
    rintro rfl
    simp [Zi, c21, c27, c32]
   ·skip
    rw [if_neg] at hr20
    rotate_left
    ·simp [c21, c27, c32]
    refine ZI (by simp [bV, c21, c27, c32]) ?_
    refine Yb ?_
    simp only [pq, reduceCtorEq]
    refine ZM rfl (by simp [c21, c27, c32]; rfl) ?_
    obtain rfl := Option.some.inj hr20
    simp only [pq, reduceCtorEq]
    simp [und, List.replicate, Nat.add_assoc, c21, c27, c32]
 ·skip
  rw [if_neg] at hr20
  rotate_left
  ·simp [c21]
  refine Zf (by simp [bV, c21]) ?_
  refine ZD ?_
  obtain ⟨r33, q33, rfl⟩ := ms hr20
  simp only [pq, reduceCtorEq]
  rintro rfl
  try simp only [pq, reduceCtorEq]
  unfold Lwide_Cmp_k1 at q33
  refine Za rfl (by simp [c21]; rfl) ?_
  refine Zh ?_
  obtain rfl := Option.some.inj q33
  simp [Zi, c21]
def kp22 : Keep := fun i => ⟨[], [], []⟩
theorem w22 {T : Tab} (hO : T.own = fun _ => []) (hT46 : T 46 = some G46) (hT47 : T 47 = some G47) (hT48 : T 48 = some G48) (a0 : Tapi_Signed) (a1 : Tapi_Signed) (x : Int) (hr : YW a0 a1 = some x) : ∃ kp fl n, ZC tt T G kp fl n Try.f22 (E22 (a0, a1)) = some (R22 (a0, a1) x) := by
 simp only [E22, R22]
 refine fnE (kp := kp22) (w := false) body22 (by simp) ?_
 unfold c22
 rw [Try.ntmps22]
 unfold YW at hr
 refine Za rfl (by simp []; rfl) ?_
 obtain ⟨y4, hy4, hr⟩ := bs hr
 have ehy4 := ZsK hy4
 simp only [E47, R47, nf, nfs] at ehy4
 obtain ⟨y5, hy5, hr⟩ := bs hr
 have ehy5 := Zp2 hy5
 simp only [E48, R48, nf, nfs] at ehy5
 obtain ⟨y6, hy6, hr⟩ := bs hr
 have ehy6 := ZsJ hy6
 simp only [E46, R46, nf, nfs] at ehy6
 refine ZR rfl (by simp [hO, hT47, ehy4, hT48, ehy5, List.range, List.range.loop, hT46, ehy6]; first | exact ⟨rfl, rfl⟩ | rfl) (by kernel_rfl) ?_
 refine Zh ?_
 obtain rfl := Option.some.inj hr
 simp [Zi, hO, hT47, ehy4, hT48, ehy5, List.range, List.range.loop, hT46, ehy6]
def kp74 : Keep := fun i => ⟨[], [], []⟩
theorem w74 {T : Tab} (a0 : Tapi_OutPoint) (x : Bool) (hr : Zd2 a0 = some x) : ∃ kp fl n, ZC tt T G kp fl n Try.f74 (E74 a0) = some (R74 a0 x) := by
 simp only [E74, R74]
 refine fnE (kp := kp74) (w := false) body74 (by simp) ?_
 unfold c74
 rw [Try.ntmps74]
 unfold Zd2 at hr
 refine Za rfl (by simp []; rfl) ?_
 refine Za rfl (by simp []; rfl) ?_
 refine Zh ?_
 obtain rfl := Option.some.inj hr
 simp [Zi, ]
def kp55 : Keep := fun i => ⟨[], [], []⟩
theorem w55 {T : Tab} (hO : T.own = fun _ => []) (hT74 : T 74 = some G74) (a0 : Tapi_Tx) (x : Bool) (hr : XU a0 = some x) : ∃ kp fl n, ZC tt T G kp fl n Try.f55 (E55 a0) = some (R55 a0 x) := by
 simp only [E55, R55]
 refine fnE (kp := kp55) (w := false) body55 (by simp) ?_
 unfold c55
 rw [Try.ntmps55]
 unfold XU at hr
 refine Za rfl (by simp []; rfl) ?_
 by_cases c4 : (a0.2.1.length : Int) = 1
 ·skip
  have c4N := c4
  try simp at c4N
  rw [if_pos] at hr
  rotate_left
  ·simp [eq_true c4, eq_true c4N]
  obtain ⟨z5, hz5, hr⟩ := bs hr
  obtain ⟨x6, hx6, hz5⟩ := bs hz5
  have hx6c := Zz hx6
  obtain ⟨y7, hy7, hz5⟩ := bs hz5
  have ehy7 := ZsL hy7
  simp only [E74, R74, nf, nfs] at ehy7
  obtain rfl := Option.some.inj hz5
  refine Za rfl (by simp [hx6, hx6c, hO, hT74, ehy7, eq_true c4, eq_true c4N]; rfl) ?_
  refine Zh ?_
  obtain rfl := Option.some.inj hr
  simp [Zi, hx6, hx6c, hO, hT74, ehy7, eq_true c4, eq_true c4N]
 ·skip
  have c4N := c4
  try simp at c4N
  first | have c4M : (_ = _) = True := eq_true c4N | have c4M := c4N
  rw [if_neg] at hr
  rotate_left
  ·simp [c4, c4M]
  obtain ⟨z8, hz8, hr⟩ := bs hr
  obtain rfl := Option.some.inj hz8
  refine Za rfl (by simp [c4, c4M]; rfl) ?_
  refine Zh ?_
  obtain rfl := Option.some.inj hr
  simp [Zi, c4, c4M, c4N]
def kp87 : Keep := fun i => ⟨[], [], []⟩
theorem w87 {T : Tab} (a0 : (List Int)) (a1 : (List Int)) (x : (List Int)) (hr : Yp a0 a1 = some x) : ∃ kp fl n, ZC tt T G kp fl n Try.f87 (E87 (a0, a1)) = some (R87 (a0, a1) x) := by
 simp only [E87, R87]
 refine fnE (kp := kp87) (w := true) body87 (by simp) ?_
 unfold c87
 rw [Try.ntmps87]
 unfold Yp at hr
 refine Za rfl (by simp []; rfl) ?_
 obtain ⟨_, u4, hr⟩ := bs hr
 obtain ⟨u4_0, u4_1⟩ := ZG u4
 have mf5 : 0 ≤ (IntKind.i64.wrap ((a0.length : Int) + (a1.length : Int))).toNat := by omega
 have mf6 : (IntKind.i64.wrap ((a0.length : Int) + (a1.length : Int))).toNat ≤ 140737488355328 := by omega
 have mf7 : (IntKind.i64.wrap ((a0.length : Int) + (a1.length : Int))).toNat ≤ 9223372036854775807 := by omega
 have mf8 : 0 ≤ IntKind.i64.wrap ((a0.length : Int) + (a1.length : Int)) := by omega
 refine Za rfl (by simp [u4_0, u4_1, mf5, mf6, mf7, mf8]; rfl) ?_
 obtain ⟨_, u9, hr⟩ := bs hr
 have u9_0 := ZG u9
 have n1_u9_0 : a0.length ≤ 140737488355328 := by omega
 have n2_u9_0 : a0.length ≤ 9223372036854775807 := by omega
 refine Za rfl (by simp [n1_u9_0, n2_u9_0]; rfl) ?_
 obtain ⟨_, u10, hr⟩ := bs hr
 have u10_0 := ZG u10
 have n1_u10_0 : a0.length + a1.length ≤ 140737488355328 := by omega
 have n2_u10_0 : a0.length + a1.length ≤ 9223372036854775807 := by omega
 refine Za rfl (by simp [n1_u10_0, n2_u10_0]; rfl) ?_
 refine Zh ?_
 obtain rfl := Option.some.inj hr
 simp [Zi, n1_u10_0, n2_u10_0]
end Go.Proofs.Ytbjhgolpnjokbaa
