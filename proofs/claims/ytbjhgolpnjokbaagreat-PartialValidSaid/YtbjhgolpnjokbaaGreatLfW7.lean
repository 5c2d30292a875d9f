import Derived.Test.YtbjhgolpnjokbaaGreatLfK
import Derived.Test.YtbjhgolpnjokbaaGreatCode
import Derived.Test.YtbjhgolpnjokbaaGreatBl
namespace Go.Proofs.YtbjhgolpnjokbaaGreat
open Go.RowKit
open Go.Av
open Go.Lc
set_option maxRecDepth 100000
set_option linter.unusedSimpArgs false
set_option linter.unusedVariables false
set_option maxHeartbeats 4000000
variable {G : Glob}
def kp86 : Keep := fun i => if i = 3 then ⟨[3, 6, 7, 8], [], []⟩ else ⟨[], [], []⟩
theorem w86 {T : Tab} (a0 : (List Tapi_Output)) (x : Bool) (hr : ZbZ a0 = some x) : ∃ kp fl n, Zs tt T G kp fl n Tryz.f86 (E86 a0) = some (R86 a0 x) := by
 simp only [E86, R86]
 refine fnE (kp := kp86) (w := false) body86 (by simp) ?_
 unfold c86
 rw [Tryz.ntmps86]
 unfold ZbZ at hr
 refine Za rfl (by simp []; rfl) ?_
 refine Za rfl (by simp []; rfl) ?_
 refine Zb ?_
 refine Za rfl (by simp []; rfl) ?_
 refine Zh ?_
 refine ZJ (kq := ⟨[3, 6, 7, 8], [], []⟩) (H := fun (s : Int × Int) => match s with | (p5, p6) => (⟨(und 3 ++ ([.one (.v (.int .i64 p5))] ++ (und 2 ++ ([.one (.slice .no (List.map Zl a0)), .one (.v (.int .i64 (a0.length : Int))), .one (.v (.int .i64 p6))] ++ (und 13)))) : List PV), ([] : Boxes)⟩ : ASt)) (by kernel_rfl) hr (by simp [und, List.replicate, ]) ?_
 rintro ⟨p5, p6⟩ x14r hr14
 simp only [ZbT] at hr14
 unfold b86_1
 simp only [und, List.replicate, List.cons_append, List.nil_append]
 refine Za rfl (by simp []; rfl) ?_
 by_cases c15 : p6 < (a0.length : Int)
 ·skip
  have c15N := c15
  try simp at c15N
  first | have c15M : (_ = _) = True := eq_true c15N | have c15M := c15N
  rw [if_pos] at hr14
  rotate_left
  ·simp [c15, c15M]
  refine Zd (by simp [bV, c15, c15M]) ?_
  refine Zg ?_
  refine Zh ?_
  obtain ⟨x16, hx16, hr14⟩ := bs hr14
  obtain ⟨hx16a, hx16b⟩ := Zz hx16
  have hx16c := Zr hx16b
  refine Za rfl (by simp [hx16a, hx16b, hx16c, c15, c15M]; rfl) ?_
  refine Zb ?_
  refine Za rfl (by simp [c15, c15M]; rfl) ?_
  by_cases c17 : IntKind.i64.wrap (2100000000000000 - p5) < x16.1
  ·skip
   rw [if_pos] at hr14
   rotate_left
   ·simp [c15, c15M, c17]
   refine Zd (by simp [bV, c15, c15M, c17]) ?_
   refine Zb ?_
   refine Za rfl (by simp [c15, c15M, c17]; rfl) ?_
   refine Zn ?_
   obtain rfl := Option.some.inj hr14
   simp only [pq, reduceCtorEq]
   rintro rfl
   simp [Zj, c15, c15M, c17, c15N]
  ·skip
   rw [if_neg] at hr14
   rotate_left
   ·simp [c15, c15M, c17]
   refine Ze (by simp [bV, c15, c15M, c17]) ?_
   refine Zg ?_
   refine Zu rfl (by simp [c15, c15M, c17]; rfl) ?_
   simp only [pq, reduceCtorEq]
   refine Zu rfl (by simp [c15, c15M, c17]; rfl) ?_
   obtain rfl := Option.some.inj hr14
   simp only [pq, reduceCtorEq]
   simp [und, List.replicate, Nat.add_assoc, c15, c15M, c17]
 ·skip
  have c15N := c15
  try simp at c15N
  first | have c15M : (_ = _) = True := eq_true c15N | have c15M := c15N
  rw [if_neg] at hr14
  rotate_left
  ·simp [c15, c15M]
  refine Ze (by simp [bV, c15, c15M]) ?_
  refine Zq ?_
  obtain ⟨r18, q18, rfl⟩ := ms hr14
  simp only [pq, reduceCtorEq]
  rintro rfl
  try simp only [pq, reduceCtorEq]
  unfold Ltx_money_k1 at q18
  refine Za rfl (by simp [c15, c15M]; rfl) ?_
  refine Zi ?_
  obtain rfl := Option.some.inj q18
  simp [Zj, c15, c15M, c15N]
def kp51 : Keep := fun i => if i = 9 then ⟨[1, 3, 25, 26, 27], [1, 1000000000023], []⟩ else ⟨[], [], []⟩
theorem w51 {T : Tab} (hO : T.own = fun _ => []) (hT52 : T 52 = some G52) (hT85 : T 85 = some G85) (hT86 : T 86 = some G86) (a0 : Tapi_Tx) (x : Int) (hr : Zbp a0 = some x) : ∃ kp fl n, Zs tt T G kp fl n Tryz.f51 (E51 a0) = some (R51 a0 x) := by
 simp only [E51, R51]
 refine fnE (kp := kp51) (w := false) body51 (by simp) ?_
 unfold c51
 rw [Tryz.ntmps51]
 unfold Zbp at hr
 refine Za rfl (by simp []; rfl) ?_
 refine Zb ?_
 obtain ⟨y13, hy13, hr⟩ := bs hr
 have ehy13 := ZrC hy13
 simp only [E85, R85, nf, nfs] at ehy13
 refine Za rfl (by simp [hO, hT85, ehy13]; rfl) ?_
 by_cases c14 : y13 = true
 ·skip
  rw [if_neg (not_not_intro c14)] at hr
  refine Ze (by simp [bV, c14]) ?_
  refine Zg ?_
  refine Zb ?_
  by_cases c15 : (a0.2.1.length : Int) = 0
  ·skip
   have c15N := c15
   try simp at c15N
   refine Za rfl (by simp [c14, eq_true c15, eq_true c15N]; rfl) ?_
   rw [if_pos] at hr
   rotate_left
   ·simp [c14, eq_true c15, eq_true c15N]
   refine Zd (by simp [bV, c14, eq_true c15, eq_true c15N]) ?_
   refine Zb ?_
   refine Za rfl (by simp [c14, eq_true c15, eq_true c15N]; rfl) ?_
   refine Zn ?_
   obtain rfl := Option.some.inj hr
   simp [Zj, c14, eq_true c15, eq_true c15N]
  ·skip
   have c15N := c15
   try simp at c15N
   first | have c15M : (_ = _) = True := eq_true c15N | have c15M := c15N
   refine Za rfl (by simp [c14, c15, c15M]; rfl) ?_
   by_cases c16 : (a0.2.2.1.length : Int) = 0
   ·skip
    have c16N := c16
    try simp at c16N
    rw [if_pos] at hr
    rotate_left
    ·simp [c14, c15, c15M, eq_true c16, eq_true c16N]
    refine Zd (by simp [bV, c14, c15, c15M, eq_true c16, eq_true c16N]) ?_
    refine Zb ?_
    refine Za rfl (by simp [c14, c15, c15M, eq_true c16, eq_true c16N]; rfl) ?_
    refine Zn ?_
    obtain rfl := Option.some.inj hr
    simp [Zj, c14, c15, c15M, eq_true c16, eq_true c16N, c15N]
   ·skip
    have c16N := c16
    try simp at c16N
    first | have c16M : (_ = _) = True := eq_true c16N | have c16M := c16N
    rw [if_neg] at hr
    rotate_left
    ·simp [c14, c15, c15M, c16, c16M]
    refine Ze (by simp [bV, c14, c15, c15M, c16, c16M]) ?_
    refine Zg ?_
    refine Zb ?_
    obtain ⟨y17, hy17, hr⟩ := bs hr
    have ehy17 := ZrD hy17
    simp only [E86, R86, nf, nfs] at ehy17
    refine Za rfl (by simp [hO, hT86, ehy17, c14, c15, c15M, c16, c16M]; rfl) ?_
    by_cases c18 : y17 = true
    ·skip
     rw [if_neg (not_not_intro c18)] at hr
     refine Ze (by simp [bV, c14, c15, c15M, c16, c16M, c18]) ?_
     refine Zg ?_
     refine Za rfl (by simp [c14, c15, c15M, c16, c16M, c18]; rfl) ?_
     refine Zb ?_
     refine Za rfl (by simp [c14, c15, c15M, c16, c16M, c18]; rfl) ?_
     refine Zh ?_
     refine ZJ (kq := ⟨[1, 3, 25, 26, 27], [1, 1000000000023], []⟩) (H := fun (s : Int × (List (Tapi_OutPoint × Bool))) => match s with | (p7, p8) => (⟨(und 1 ++ ([.ptr 1 0 0 0 4] ++ (und 1 ++ ([.one (.mp 1000000000023 0)] ++ (und 21 ++ ([.one (.slice .no (List.map Zm a0.2.1)), .one (.v (.int .i64 (a0.2.1.length : Int))), .one (.v (.int .i64 p7))] ++ (und 19)))))) : List PV), ([(1, ⟨0, 4, [[.v (.int .u32 a0.1), .slice .no (List.map Zm a0.2.1), .slice .no (List.map Zl a0.2.2.1), .v (.int .u32 a0.2.2.2)]], false, false⟩), (1000000000023, ⟨0, 6, ((arC .u8 (zA 32)) ++ ((.v (.int .u32 0)) :: [])) :: List.map ZaF p8, false, false⟩)] : Boxes)⟩ : ASt)) (by kernel_rfl) hr (by simp [und, List.replicate, c14, c15, c15M, c16, c16M, c18]) ?_
     rintro ⟨p7, p8⟩ x24r hr24
     simp only [ZbU] at hr24
     unfold b51_1
     simp only [und, List.replicate, List.cons_append, List.nil_append]
     refine Za rfl (by simp [c14, c15, c15M, c16, c16M, c18]; rfl) ?_
     by_cases c25 : p7 < (a0.2.1.length : Int)
     ·skip
      have c25N := c25
      try simp at c25N
      first | have c25M : (_ = _) = True := eq_true c25N | have c25M := c25N
      rw [if_pos] at hr24
      rotate_left
      ·simp [c14, c15, c15M, c16, c16M, c18, c25, c25M]
      refine Zd (by simp [bV, c14, c15, c15M, c16, c16M, c18, c25, c25M]) ?_
      refine Zg ?_
      refine Zh ?_
      obtain ⟨x26, hx26, hr24⟩ := bs hr24
      obtain ⟨hx26a, hx26b⟩ := Zz hx26
      have hx26c := Zr hx26b
      refine Za rfl (by simp [hx26a, hx26b, hx26c, c14, c15, c15M, c16, c16M, c18, c25, c25M]; rfl) ?_
      refine Zb ?_
      refine Za rfl (by simp [c14, c15, c15M, c16, c16M, c18, c25, c25M]; rfl) ?_
      by_cases c27 : (ZcA x26.1 p8).getD false = true
      ·skip
       rw [if_pos] at hr24
       rotate_left
       ·simp [c14, c15, c15M, c16, c16M, c18, c25, c25M, c27]
       refine Zd (by simp [bV, c14, c15, c15M, c16, c16M, c18, c25, c25M, c27]) ?_
       refine Zb ?_
       refine Za rfl (by simp [c14, c15, c15M, c16, c16M, c18, c25, c25M, c27]; rfl) ?_
       refine Zn ?_
       obtain rfl := Option.some.inj hr24
       simp only [pq, reduceCtorEq]
       rintro rfl
       simp [Zj, c14, c15, c15M, c16, c16M, c18, c25, c25M, c27, c15N, c16N, c25N]
      ·skip
       rw [if_neg] at hr24
       rotate_left
       ·simp [c14, c15, c15M, c16, c16M, c18, c25, c25M, c27]
       refine Ze (by simp [bV, c14, c15, c15M, c16, c16M, c18, c25, c25M, c27]) ?_
       refine Zg ?_
       refine Zu rfl (by simp [c14, c15, c15M, c16, c16M, c18, c25, c25M, c27]; rfl) ?_
       simp only [pq, reduceCtorEq]
       refine Zu rfl (by simp [c14, c15, c15M, c16, c16M, c18, c25, c25M, c27]; rfl) ?_
       obtain rfl := Option.some.inj hr24
       simp only [pq, reduceCtorEq]
       simp [und, List.replicate, Nat.add_assoc, c14, c15, c15M, c16, c16M, c18, c25, c25M, c27]
     ·skip
      have c25N := c25
      try simp at c25N
      first | have c25M : (_ = _) = True := eq_true c25N | have c25M := c25N
      rw [if_neg] at hr24
      rotate_left
      ·simp [c14, c15, c15M, c16, c16M, c18, c25, c25M]
      refine Ze (by simp [bV, c14, c15, c15M, c16, c16M, c18, c25, c25M]) ?_
      refine Zq ?_
      obtain ⟨r28, q28, rfl⟩ := ms hr24
      simp only [pq, reduceCtorEq]
      rintro rfl
      try simp only [pq, reduceCtorEq]
      unfold Zf0 at q28
      refine Zb ?_
      by_cases c29 : (ZcA (zA 32, 4294967295) p8).getD false = true
      ·skip
       rw [if_pos] at q28
       rotate_left
       ·simp [c14, c15, c15M, c16, c16M, c18, c25, c25M, c29]
       obtain ⟨z30, hz30, q28⟩ := bs q28
       obtain ⟨y31, hy31, hz30⟩ := bs hz30
       have ehy31 := ZoL hy31
       simp only [E52, R52, nf, nfs] at ehy31
       obtain rfl := Option.some.inj hz30
       refine Za rfl (by simp [hO, hT52, ehy31, c14, c15, c15M, c16, c16M, c18, c25, c25M, c29]; rfl) ?_
       by_cases c32 : y31 = true
       ·skip
        rw [if_neg] at q28
        rotate_left
        ·simp [c14, c15, c15M, c16, c16M, c18, c25, c25M, c29, c32]
        refine Ze (by simp [bV, c14, c15, c15M, c16, c16M, c18, c25, c25M, c29, c32]) ?_
        refine Zg ?_
        refine Za rfl (by simp [c14, c15, c15M, c16, c16M, c18, c25, c25M, c29, c32]; rfl) ?_
        refine Zi ?_
        obtain rfl := Option.some.inj q28
        simp [Zj, c14, c15, c15M, c16, c16M, c18, c25, c25M, c29, c32, c15N, c16N, c25N]
       ·skip
        rw [if_pos] at q28
        rotate_left
        ·simp [c14, c15, c15M, c16, c16M, c18, c25, c25M, c29, c32]
        refine Zd (by simp [bV, c14, c15, c15M, c16, c16M, c18, c25, c25M, c29, c32]) ?_
        refine Zb ?_
        refine Za rfl (by simp [c14, c15, c15M, c16, c16M, c18, c25, c25M, c29, c32]; rfl) ?_
        refine Zn ?_
        obtain rfl := Option.some.inj q28
        simp [Zj, c14, c15, c15M, c16, c16M, c18, c25, c25M, c29, c32, c15N, c16N, c25N]
      ·skip
       rw [if_neg] at q28
       rotate_left
       ·simp [c14, c15, c15M, c16, c16M, c18, c25, c25M, c29]
       obtain ⟨z33, hz33, q28⟩ := bs q28
       obtain rfl := Option.some.inj hz33
       refine Za rfl (by simp [c14, c15, c15M, c16, c16M, c18, c25, c25M, c29]; rfl) ?_
       rw [if_neg] at q28
       rotate_left
       ·simp [c14, c15, c15M, c16, c16M, c18, c25, c25M, c29]
       refine Ze (by simp [bV, c14, c15, c15M, c16, c16M, c18, c25, c25M, c29]) ?_
       refine Zg ?_
       refine Za rfl (by simp [c14, c15, c15M, c16, c16M, c18, c25, c25M, c29]; rfl) ?_
       refine Zi ?_
       obtain rfl := Option.some.inj q28
       simp [Zj, c14, c15, c15M, c16, c16M, c18, c25, c25M, c29, c15N, c16N, c25N]
    ·skip
     rw [if_pos c18] at hr
     refine Zd (by simp [bV, c14, c15, c15M, c16, c16M, c18]) ?_
     refine Zb ?_
     refine Za rfl (by simp [c14, c15, c15M, c16, c16M, c18]; rfl) ?_
     refine Zn ?_
     obtain rfl := Option.some.inj hr
     simp [Zj, c14, c15, c15M, c16, c16M, c18, c15N, c16N]
 ·skip
  rw [if_pos c14] at hr
  refine Zd (by simp [bV, c14]) ?_
  refine Zb ?_
  refine Za rfl (by simp [c14]; rfl) ?_
  refine Zn ?_
  obtain rfl := Option.some.inj hr
  simp [Zj, c14]
def kp88 : Keep := fun i => if i = 3 then ⟨[4, 7, 8, 9], [], []⟩ else ⟨[], [], []⟩
theorem w88 {T : Tab} (a0 : (List Tapi_Coin)) (x : Int × Bool) (hr : Zbq a0 = some x) : ∃ kp fl n, Zs tt T G kp fl n Tryz.f88 (E88 a0) = some (R88 a0 x) := by
 simp only [E88, R88]
 refine fnE (kp := kp88) (w := false) body88 (by simp) ?_
 unfold c88
 rw [Tryz.ntmps88]
 unfold Zbq at hr
 refine Za rfl (by simp []; rfl) ?_
 refine Za rfl (by simp []; rfl) ?_
 refine Zb ?_
 refine Za rfl (by simp []; rfl) ?_
 refine Zh ?_
 refine ZJ (kq := ⟨[4, 7, 8, 9], [], []⟩) (H := fun (s : Int × Int) => match s with | (p5, p6) => (⟨(und 4 ++ ([.one (.v (.int .i64 p5))] ++ (und 2 ++ ([.one (.slice .no (List.map ZD a0)), .one (.v (.int .i64 (a0.length : Int))), .one (.v (.int .i64 p6))] ++ (und 22)))) : List PV), ([] : Boxes)⟩ : ASt)) (by kernel_rfl) hr (by simp [und, List.replicate, ]) ?_
 rintro ⟨p5, p6⟩ x15r hr15
 simp only [Zbd] at hr15
 unfold b88_1
 simp only [und, List.replicate, List.cons_append, List.nil_append]
 refine Za rfl (by simp []; rfl) ?_
 by_cases c16 : p6 < (a0.length : Int)
 ·skip
  have c16N := c16
  try simp at c16N
  first | have c16M : (_ = _) = True := eq_true c16N | have c16M := c16N
  rw [if_pos] at hr15
  rotate_left
  ·simp [c16, c16M]
  refine Zd (by simp [bV, c16, c16M]) ?_
  refine Zg ?_
  refine Zh ?_
  obtain ⟨x17, hx17, hr15⟩ := bs hr15
  obtain ⟨hx17a, hx17b⟩ := Zz hx17
  have hx17c := Zr hx17b
  refine Za rfl (by simp [hx17a, hx17b, hx17c, c16, c16M]; rfl) ?_
  refine Zb ?_
  by_cases c18 : x17.2.1.1 < 0
  ·skip
   refine Za rfl (by simp [c16, c16M, c18]; rfl) ?_
   rw [if_pos] at hr15
   rotate_left
   ·simp [c16, c16M, c18]
   refine Zd (by simp [bV, c16, c16M, c18]) ?_
   refine Zb ?_
   refine Za rfl (by simp [c16, c16M, c18]; rfl) ?_
   refine Zn ?_
   obtain rfl := Option.some.inj hr15
   simp only [pq, reduceCtorEq]
   rintro rfl
   simp [Zj, c16, c16M, c18, c16N]
  ·skip
   refine Za rfl (by simp [c16, c16M, c18]; rfl) ?_
   by_cases c19 : IntKind.i64.wrap (2100000000000000 - p5) < x17.2.1.1
   ·skip
    rw [if_pos] at hr15
    rotate_left
    ·simp [c16, c16M, c18, c19]
    refine Zd (by simp [bV, c16, c16M, c18, c19]) ?_
    refine Zb ?_
    refine Za rfl (by simp [c16, c16M, c18, c19]; rfl) ?_
    refine Zn ?_
    obtain rfl := Option.some.inj hr15
    simp only [pq, reduceCtorEq]
    rintro rfl
    simp [Zj, c16, c16M, c18, c19, c16N]
   ·skip
    rw [if_neg] at hr15
    rotate_left
    ·simp [c16, c16M, c18, c19]
    refine Ze (by simp [bV, c16, c16M, c18, c19]) ?_
    refine Zg ?_
    refine Zu rfl (by simp [c16, c16M, c18, c19]; rfl) ?_
    simp only [pq, reduceCtorEq]
    refine Zu rfl (by simp [c16, c16M, c18, c19]; rfl) ?_
    obtain rfl := Option.some.inj hr15
    simp only [pq, reduceCtorEq]
    simp [und, List.replicate, Nat.add_assoc, c16, c16M, c18, c19]
 ·skip
  have c16N := c16
  try simp at c16N
  first | have c16M : (_ = _) = True := eq_true c16N | have c16M := c16N
  rw [if_neg] at hr15
  rotate_left
  ·simp [c16, c16M]
  refine Ze (by simp [bV, c16, c16M]) ?_
  refine Zq ?_
  obtain ⟨r20, q20, rfl⟩ := ms hr15
  simp only [pq, reduceCtorEq]
  rintro rfl
  try simp only [pq, reduceCtorEq]
  unfold ZhI at q20
  refine Za rfl (by simp [c16, c16M]; rfl) ?_
  refine Zi ?_
  obtain rfl := Option.some.inj q20
  simp [Zj, c16, c16M, c16N]
def kp53 : Keep := fun i => if i = 7 then ⟨[1, 2, 24, 25, 26], [2], []⟩ else if i = 16 then ⟨[9, 49, 50, 51], [], []⟩ else ⟨[], [], []⟩
theorem w53 {T : Tab} (hO : T.own = fun _ => []) (hT51 : T 51 = some G51) (hT88 : T 88 = some G88) (a0 : Tapi_Tx) (a1 : (List Tapi_Coin)) (x : Int × Int) (hr : Zbr a0 a1 = some x) : ∃ kp fl n, Zs tt T G kp fl n Tryz.f53 (E53 (a0, a1)) = some (R53 (a0, a1) x) := by
 simp only [E53, R53]
 refine fnE (kp := kp53) (w := false) body53 (by simp) ?_
 unfold c53
 rw [Tryz.ntmps53]
 unfold Zbr at hr
 refine Za rfl (by simp []; rfl) ?_
 refine Zb ?_
 obtain ⟨y21, hy21, hr⟩ := bs hr
 have ehy21 := ZoM hy21
 simp only [E51, R51, nf, nfs] at ehy21
 refine Za rfl (by simp [hO, hT51, ehy21]; rfl) ?_
 refine Zb ?_
 refine Za rfl (by simp []; rfl) ?_
 by_cases c22 : y21 = 0
 ·skip
  rw [if_neg (not_not_intro c22)] at hr
  refine Ze (by simp [bV, eq_true c22]) ?_
  refine Zg ?_
  refine Zb ?_
  refine Za rfl (by simp [eq_true c22]; rfl) ?_
  by_cases c23 : (a1.length : Int) = (a0.2.1.length : Int)
  ·skip
   have c23N := c23
   try simp at c23N
   rw [if_neg (not_not_intro c23)] at hr
   refine Ze (by simp [bV, eq_true c22, eq_true c23, eq_true c23N]) ?_
   refine Zg ?_
   refine Zb ?_
   refine Za rfl (by simp [eq_true c22, eq_true c23, eq_true c23N]; rfl) ?_
   refine Zh ?_
   refine ZJ (kq := ⟨[1, 2, 24, 25, 26], [2], []⟩) (H := fun (s : Int) => match s with | p7 => (⟨(und 1 ++ ([.one (.slice .no (List.map ZD a1)), .ptr 2 0 0 0 4] ++ (und 21 ++ ([.one (.slice .no (List.map ZD a1)), .one (.v (.int .i64 (a1.length : Int))), .one (.v (.int .i64 p7))] ++ (und 36)))) : List PV), ([(2, ⟨0, 4, [[.v (.int .u32 a0.1), .slice .no (List.map Zm a0.2.1), .slice .no (List.map Zl a0.2.2.1), .v (.int .u32 a0.2.2.2)]], false, false⟩)] : Boxes)⟩ : ASt)) (by kernel_rfl) hr (by simp [und, List.replicate, eq_true c22, eq_true c23, eq_true c23N]) ?_
   rintro p7 x31r hr31
   simp only [Zbe] at hr31
   unfold b53_1
   simp only [und, List.replicate, List.cons_append, List.nil_append]
   refine Za rfl (by simp [eq_true c22, eq_true c23, eq_true c23N]; rfl) ?_
   by_cases c32 : p7 < (a1.length : Int)
   ·skip
    have c32N := c32
    try simp at c32N
    first | have c32M : (_ = _) = True := eq_true c32N | have c32M := c32N
    rw [if_pos] at hr31
    rotate_left
    ·simp [eq_true c22, eq_true c23, eq_true c23N, c32, c32M]
    refine Zd (by simp [bV, eq_true c22, eq_true c23, eq_true c23N, c32, c32M]) ?_
    refine Zg ?_
    refine Zh ?_
    obtain ⟨x33, hx33, hr31⟩ := bs hr31
    obtain ⟨hx33a, hx33b⟩ := Zz hx33
    have hx33c := Zr hx33b
    refine Za rfl (by simp [hx33a, hx33b, hx33c, eq_true c22, eq_true c23, eq_true c23N, c32, c32M]; rfl) ?_
    obtain ⟨x34, hx34, hr31⟩ := bs hr31
    obtain ⟨hx34a, hx34b⟩ := Zz hx34
    have hx34c := Zr hx34b
    refine ZB rfl (by simp [hx34a, hx34b, hx34c, eq_true c22, eq_true c23, eq_true c23N, c32, c32M]; first | exact ⟨rfl, rfl⟩ | rfl) (by kernel_rfl) ?_
    by_cases c35 : x33.1.1 = x34.1.1
    ·skip
     by_cases c36 : x33.1.2 = x34.1.2
     ·skip
      rw [if_neg] at hr31
      rotate_left
      ·simp [eq_true c22, eq_true c23, eq_true c23N, c32, c32M, eq_true c35, eq_true c36]
      refine Zw (by simp [bV, eq_true c22, eq_true c23, eq_true c23N, c32, c32M, eq_true c35, eq_true c36]) ?_
      refine ZU ?_
      simp only [pq, reduceCtorEq]
      refine Zu rfl (by simp [eq_true c22, eq_true c23, eq_true c23N, c32, c32M, eq_true c35, eq_true c36]; rfl) ?_
      obtain rfl := Option.some.inj hr31
      simp only [pq, reduceCtorEq]
      simp [und, List.replicate, Nat.add_assoc, eq_true c22, eq_true c23, eq_true c23N, c32, c32M, eq_true c35, eq_true c36]
     ·skip
      rw [if_pos] at hr31
      rotate_left
      ·simp [eq_true c22, eq_true c23, eq_true c23N, c32, c32M, eq_true c35, c36]
      refine Zp (by simp [bV, eq_true c22, eq_true c23, eq_true c23N, c32, c32M, eq_true c35, c36]) ?_
      refine Za rfl (by simp [eq_true c22, eq_true c23, eq_true c23N, c32, c32M, eq_true c35, c36]; rfl) ?_
      refine Zi ?_
      obtain rfl := Option.some.inj hr31
      simp only [pq, reduceCtorEq]
      rintro rfl
      simp [Zj, eq_true c22, eq_true c23, eq_true c23N, c32, c32M, eq_true c35, c36, c32N]
    ·skip
     rw [if_pos] at hr31
     rotate_left
     ·simp [eq_true c22, eq_true c23, eq_true c23N, c32, c32M, c35]
     refine Zp (by simp [bV, eq_true c22, eq_true c23, eq_true c23N, c32, c32M, c35]) ?_
     refine Za rfl (by simp [eq_true c22, eq_true c23, eq_true c23N, c32, c32M, c35]; rfl) ?_
     refine Zi ?_
     obtain rfl := Option.some.inj hr31
     simp only [pq, reduceCtorEq]
     rintro rfl
     simp [Zj, eq_true c22, eq_true c23, eq_true c23N, c32, c32M, c35, c32N]
   ·skip
    have c32N := c32
    try simp at c32N
    first | have c32M : (_ = _) = True := eq_true c32N | have c32M := c32N
    rw [if_neg] at hr31
    rotate_left
    ·simp [eq_true c22, eq_true c23, eq_true c23N, c32, c32M]
    refine Ze (by simp [bV, eq_true c22, eq_true c23, eq_true c23N, c32, c32M]) ?_
    refine Zq ?_
    obtain ⟨r37, q37, rfl⟩ := ms hr31
    simp only [pq, reduceCtorEq]
    rintro rfl
    try simp only [pq, reduceCtorEq]
    unfold ZdH at q37
    obtain ⟨y38, hy38, q37⟩ := bs q37
    have ehy38 := ZrE hy38
    simp only [E88, R88, nf, nfs] at ehy38
    refine Za rfl (by simp [hO, hT88, ehy38, eq_true c22, eq_true c23, eq_true c23N, c32, c32M]; rfl) ?_
    refine Zb ?_
    refine Za rfl (by simp [eq_true c22, eq_true c23, eq_true c23N, c32, c32M]; rfl) ?_
    by_cases c39 : y38.2 = true
    ·skip
     rw [if_neg (not_not_intro c39)] at q37
     refine Ze (by simp [bV, eq_true c22, eq_true c23, eq_true c23N, c32, c32M, c39]) ?_
     refine Zg ?_
     refine Zb ?_
     refine Za rfl (by simp [eq_true c22, eq_true c23, eq_true c23N, c32, c32M, c39]; rfl) ?_
     refine Zh ?_
     refine ZJ (kq := ⟨[9, 49, 50, 51], [], []⟩) (H := fun (s : Int × Int) => match s with | (p15, p16) => (⟨(und 9 ++ ([.one (.v (.int .i64 p15))] ++ (und 39 ++ ([.one (.slice .no (List.map Zl a0.2.2.1)), .one (.v (.int .i64 (a0.2.2.1.length : Int))), .one (.v (.int .i64 p16))] ++ (und 11)))) : List PV), ([] : Boxes)⟩ : ASt)) (by kernel_rfl) q37 (by simp [und, List.replicate, eq_true c22, eq_true c23, eq_true c23N, c32, c32M, c39]) ?_
     rintro ⟨p15, p16⟩ x44r hr44
     simp only [Zfm] at hr44
     unfold b53_2
     simp only [und, List.replicate, List.cons_append, List.nil_append]
     refine Za rfl (by simp [eq_true c22, eq_true c23, eq_true c23N, c32, c32M, c39]; rfl) ?_
     by_cases c45 : p16 < (a0.2.2.1.length : Int)
     ·skip
      have c45N := c45
      try simp at c45N
      first | have c45M : (_ = _) = True := eq_true c45N | have c45M := c45N
      rw [if_pos] at hr44
      rotate_left
      ·simp [eq_true c22, eq_true c23, eq_true c23N, c32, c32M, c39, c45, c45M]
      refine Zd (by simp [bV, eq_true c22, eq_true c23, eq_true c23N, c32, c32M, c39, c45, c45M]) ?_
      refine Zg ?_
      refine Zh ?_
      obtain ⟨x46, hx46, hr44⟩ := bs hr44
      obtain ⟨hx46a, hx46b⟩ := Zz hx46
      have hx46c := Zr hx46b
      refine Za rfl (by simp [hx46a, hx46b, hx46c, eq_true c22, eq_true c23, eq_true c23N, c32, c32M, c39, c45, c45M]; rfl) ?_
      refine Zu rfl (by simp [eq_true c22, eq_true c23, eq_true c23N, c32, c32M, c39, c45, c45M]; rfl) ?_
      simp only [pq, reduceCtorEq]
      refine Zu rfl (by simp [eq_true c22, eq_true c23, eq_true c23N, c32, c32M, c39, c45, c45M]; rfl) ?_
      obtain rfl := Option.some.inj hr44
      simp only [pq, reduceCtorEq]
      simp [und, List.replicate, Nat.add_assoc, eq_true c22, eq_true c23, eq_true c23N, c32, c32M, c39, c45, c45M]
     ·skip
      have c45N := c45
      try simp at c45N
      first | have c45M : (_ = _) = True := eq_true c45N | have c45M := c45N
      rw [if_neg] at hr44
      rotate_left
      ·simp [eq_true c22, eq_true c23, eq_true c23N, c32, c32M, c39, c45, c45M]
      refine Ze (by simp [bV, eq_true c22, eq_true c23, eq_true c23N, c32, c32M, c39, c45, c45M]) ?_
      refine Zq ?_
      obtain ⟨r47, q47, rfl⟩ := ms hr44
      simp only [pq, reduceCtorEq]
      rintro rfl
      try simp only [pq, reduceCtorEq]
      unfold ZhJ at q47
      refine Zb ?_
      refine Za rfl (by simp [eq_true c22, eq_true c23, eq_true c23N, c32, c32M, c39, c45, c45M]; rfl) ?_
      by_cases c48 : p15 < 0
      ·skip
       rw [if_pos c48] at q47
       refine Zd (by simp [bV, eq_true c22, eq_true c23, eq_true c23N, c32, c32M, c39, c45, c45M, c48]) ?_
       refine Zb ?_
       refine Za rfl (by simp [eq_true c22, eq_true c23, eq_true c23N, c32, c32M, c39, c45, c45M, c48]; rfl) ?_
       refine Zn ?_
       obtain rfl := Option.some.inj q47
       simp [Zj, eq_true c22, eq_true c23, eq_true c23N, c32, c32M, c39, c45, c45M, c48, c32N, c45N]
      ·skip
       rw [if_neg c48] at q47
       refine Ze (by simp [bV, eq_true c22, eq_true c23, eq_true c23N, c32, c32M, c39, c45, c45M, c48]) ?_
       refine Zg ?_
       refine Za rfl (by simp [eq_true c22, eq_true c23, eq_true c23N, c32, c32M, c39, c45, c45M, c48]; rfl) ?_
       refine Zi ?_
       obtain rfl := Option.some.inj q47
       simp [Zj, eq_true c22, eq_true c23, eq_true c23N, c32, c32M, c39, c45, c45M, c48, c32N, c45N]
    ·skip
     rw [if_pos c39] at q37
     refine Zd (by simp [bV, eq_true c22, eq_true c23, eq_true c23N, c32, c32M, c39]) ?_
     refine Zb ?_
     refine Za rfl (by simp [eq_true c22, eq_true c23, eq_true c23N, c32, c32M, c39]; rfl) ?_
     refine Zn ?_
     obtain rfl := Option.some.inj q37
     simp [Zj, eq_true c22, eq_true c23, eq_true c23N, c32, c32M, c39, c32N]
  ·skip
   have c23N := c23
   try simp at c23N
   first | have c23M : (_ = _) = True := eq_true c23N | have c23M := c23N
   rw [if_pos c23] at hr
   refine Zd (by simp [bV, eq_true c22, c23, c23M]) ?_
   refine Zb ?_
   refine Za rfl (by simp [eq_true c22, c23, c23M]; rfl) ?_
   refine Zn ?_
   obtain rfl := Option.some.inj hr
   simp [Zj, eq_true c22, c23, c23M, c23N]
 ·skip
  rw [if_pos c22] at hr
  refine Zd (by simp [bV, c22]) ?_
  refine Zb ?_
  refine Za rfl (by simp [c22]; rfl) ?_
  refine Zn ?_
  obtain rfl := Option.some.inj hr
  simp [Zj, c22]
def kp28 : Keep := fun i => if i = 4 then ⟨[1, 18, 19, 20], [1], []⟩ else ⟨[], [], []⟩
theorem w28 {T : Tab} (hO : T.own = fun _ => []) (hT51 : T 51 = some G51) (hT52 : T 52 = some G52) (hT53 : T 53 = some G53) (a0 : Tapi_Plan) (x : Bool) (hr : Y7 a0 = some x) : ∃ kp fl n, Zs tt T G kp fl n Tryz.f28 (E28 a0) = some (R28 a0 x) := by
 simp only [E28, R28]
 refine fnE (kp := kp28) (w := false) body28 (by simp) ?_
 unfold c28
 rw [Tryz.ntmps28]
 unfold Y7 at hr
 refine Za rfl (by simp []; rfl) ?_
 refine Zb ?_
 obtain ⟨y11, hy11, hr⟩ := bs hr
 have ehy11 := ZoM hy11
 simp only [E51, R51, nf, nfs] at ehy11
 by_cases c12 : y11 = 0
 ·skip
  rw [if_neg] at hr
  rotate_left
  ·simp [eq_true c12]
  obtain ⟨z13, hz13, hr⟩ := bs hr
  obtain ⟨y14, hy14, hz13⟩ := bs hz13
  have ehy14 := ZoL hy14
  simp only [E52, R52, nf, nfs] at ehy14
  obtain rfl := Option.some.inj hz13
  refine Za rfl (by simp [hO, hT51, ehy11, hT52, ehy14, eq_true c12]; rfl) ?_
  by_cases c15 : y14 = true
  ·skip
   rw [if_pos] at hr
   rotate_left
   ·simp [eq_true c12, c15]
   refine Zd (by simp [bV, eq_true c12, c15]) ?_
   refine Zb ?_
   refine Za rfl (by simp [eq_true c12, c15]; rfl) ?_
   refine Zn ?_
   obtain rfl := Option.some.inj hr
   simp [Zj, eq_true c12, c15]
  ·skip
   rw [if_neg] at hr
   rotate_left
   ·simp [eq_true c12, c15]
   refine Ze (by simp [bV, eq_true c12, c15]) ?_
   refine Zg ?_
   refine Zb ?_
   refine Za rfl (by simp [eq_true c12, c15]; rfl) ?_
   refine Zh ?_
   refine ZJ (kq := ⟨[1, 18, 19, 20], [1], []⟩) (H := fun (s : Int) => match s with | p7 => (⟨(und 1 ++ ([.ptr 1 0 0 0 7] ++ (und 16 ++ ([.one (.slice .no (List.map Zm a0.1.2.1)), .one (.v (.int .i64 (a0.1.2.1.length : Int))), .one (.v (.int .i64 p7))] ++ (und 36)))) : List PV), ([(1, ⟨0, 7, [[.v (.int .u32 a0.1.1), .slice .no (List.map Zm a0.1.2.1), .slice .no (List.map Zl a0.1.2.2.1), .v (.int .u32 a0.1.2.2.2), .slice .no (List.map ZD a0.2.1), .v (.int .i64 a0.2.2.1), .v (.int .i64 a0.2.2.2)]], false, false⟩)] : Boxes)⟩ : ASt)) (by kernel_rfl) hr (by simp [und, List.replicate, eq_true c12, c15]) ?_
   rintro p7 x21r hr21
   simp only [YL] at hr21
   unfold b28_1
   simp only [und, List.replicate, List.cons_append, List.nil_append]
   refine Za rfl (by simp [eq_true c12, c15]; rfl) ?_
   by_cases c22 : p7 < (a0.1.2.1.length : Int)
   ·skip
    have c22N := c22
    try simp at c22N
    first | have c22M : (_ = _) = True := eq_true c22N | have c22M := c22N
    rw [if_pos] at hr21
    rotate_left
    ·simp [eq_true c12, c15, c22, c22M]
    refine Zd (by simp [bV, eq_true c12, c15, c22, c22M]) ?_
    refine Zg ?_
    refine Zh ?_
    obtain ⟨x23, hx23, hr21⟩ := bs hr21
    obtain ⟨hx23a, hx23b⟩ := Zz hx23
    have hx23c := Zr hx23b
    refine Za rfl (by simp [hx23a, hx23b, hx23c, eq_true c12, c15, c22, c22M]; rfl) ?_
    refine Za rfl (by simp [eq_true c12, c15, c22, c22M]; rfl) ?_
    by_cases c24 : 0 < (x23.2.2.length : Int)
    ·skip
     have c24N := c24
     try simp at c24N
     first | have c24M : (_ = _) = True := eq_true c24N | have c24M := c24N
     rw [if_pos c24] at hr21
     refine Zp (by simp [bV, eq_true c12, c15, c22, c22M, c24, c24M]) ?_
     refine Za rfl (by simp [eq_true c12, c15, c22, c22M, c24, c24M]; rfl) ?_
     refine Zi ?_
     obtain rfl := Option.some.inj hr21
     simp only [pq, reduceCtorEq]
     rintro rfl
     simp [Zj, eq_true c12, c15, c22, c22M, c24, c24M, c22N, c24N]
    ·skip
     have c24N := c24
     try simp at c24N
     first | have c24M : (_ = _) = True := eq_true c24N | have c24M := c24N
     have c24L : ¬ 0 < x23.2.2.length := by omega
     rw [if_neg c24] at hr21
     refine Zw (by simp [bV, eq_true c12, c15, c22, c22M, c24, c24M, c24L]) ?_
     refine ZU ?_
     simp only [pq, reduceCtorEq]
     refine Zu rfl (by simp [eq_true c12, c15, c22, c22M, c24, c24M, c24L]; rfl) ?_
     obtain rfl := Option.some.inj hr21
     simp only [pq, reduceCtorEq]
     simp [und, List.replicate, Nat.add_assoc, eq_true c12, c15, c22, c22M, c24, c24M, c24L]
   ·skip
    have c22N := c22
    try simp at c22N
    first | have c22M : (_ = _) = True := eq_true c22N | have c22M := c22N
    rw [if_neg] at hr21
    rotate_left
    ·simp [eq_true c12, c15, c22, c22M]
    refine Ze (by simp [bV, eq_true c12, c15, c22, c22M]) ?_
    refine Zq ?_
    obtain ⟨r25, q25, rfl⟩ := ms hr21
    simp only [pq, reduceCtorEq]
    rintro rfl
    try simp only [pq, reduceCtorEq]
    unfold ZcD at q25
    refine Zb ?_
    by_cases c26 : a0.2.2.2 < (-1)
    ·skip
     refine Za rfl (by simp [eq_true c12, c15, c22, c22M, c26]; rfl) ?_
     rw [if_pos] at q25
     rotate_left
     ·simp [eq_true c12, c15, c22, c22M, c26]
     refine Zd (by simp [bV, eq_true c12, c15, c22, c22M, c26]) ?_
     refine Zb ?_
     refine Za rfl (by simp [eq_true c12, c15, c22, c22M, c26]; rfl) ?_
     refine Zn ?_
     obtain rfl := Option.some.inj q25
     simp [Zj, eq_true c12, c15, c22, c22M, c26, c22N]
    ·skip
     refine Za rfl (by simp [eq_true c12, c15, c22, c22M, c26]; rfl) ?_
     by_cases c27 : (a0.1.2.2.1.length : Int) ≤ a0.2.2.2
     ·skip
      have c27N := c27
      try simp at c27N
      first | have c27M : (_ = _) = True := eq_true c27N | have c27M := c27N
      rw [if_pos] at q25
      rotate_left
      ·simp [eq_true c12, c15, c22, c22M, c26, c27, c27M]
      refine Zd (by simp [bV, eq_true c12, c15, c22, c22M, c26, c27, c27M]) ?_
      refine Zb ?_
      refine Za rfl (by simp [eq_true c12, c15, c22, c22M, c26, c27, c27M]; rfl) ?_
      refine Zn ?_
      obtain rfl := Option.some.inj q25
      simp [Zj, eq_true c12, c15, c22, c22M, c26, c27, c27M, c22N, c27N]
     ·skip
      have c27N := c27
      try simp at c27N
      first | have c27M : (_ = _) = True := eq_true c27N | have c27M := c27N
      rw [if_neg] at q25
      rotate_left
      ·simp [eq_true c12, c15, c22, c22M, c26, c27, c27M]
      refine Ze (by simp [bV, eq_true c12, c15, c22, c22M, c26, c27, c27M]) ?_
      refine Zg ?_
      obtain ⟨y28, hy28, q25⟩ := bs q25
      have ehy28 := ZrF hy28
      simp only [E53, R53, nf, nfs] at ehy28
      refine Za rfl (by simp [hO, hT53, ehy28, eq_true c12, c15, c22, c22M, c26, c27, c27M]; rfl) ?_
      by_cases c29 : y28.2 = 0
      ·skip
       refine Za rfl (by simp [eq_true c12, c15, c22, c22M, c26, c27, c27M, eq_true c29]; rfl) ?_
       refine Zi ?_
       obtain rfl := Option.some.inj q25
       simp [Zj, eq_true c12, c15, c22, c22M, c26, c27, c27M, eq_true c29, c22N, c27N]
      ·skip
       refine Za rfl (by simp [eq_true c12, c15, c22, c22M, c26, c27, c27M, c29]; rfl) ?_
       refine Zi ?_
       obtain rfl := Option.some.inj q25
       simp [Zj, eq_true c12, c15, c22, c22M, c26, c27, c27M, c29, c22N, c27N]
 ·skip
  rw [if_pos] at hr
  rotate_left
  ·simp [c12]
  obtain ⟨z30, hz30, hr⟩ := bs hr
  obtain rfl := Option.some.inj hz30
  refine Za rfl (by simp [hO, hT51, ehy11, c12]; rfl) ?_
  rw [if_pos] at hr
  rotate_left
  ·simp [c12]
  refine Zd (by simp [bV, c12]) ?_
  refine Zb ?_
  refine Za rfl (by simp [c12]; rfl) ?_
  refine Zn ?_
  obtain rfl := Option.some.inj hr
  simp [Zj, c12]
theorem Zr7 (c : Nat) (w : World) : Calls Tryz.prog 56 #[.slice none 0 c] w fun e w' => e = .returned (.slice none 0 0) ∧ w' = w := by
 have h1 : ∀ w, (binOp .eql 49 (.slice none 0 c) (.slice none 0 0)).run Tryz.prog w = .ok (.bool true) w := fun w => by
  have h : ∀ d : Nat, (Op.equalIn (d + 1) 49 (.slice none 0 c) (.slice none 0 0)).run Tryz.prog w = .ok true w := fun d => by
   simp [Op.equalIn, run_underlying Tryz.underlying49]
  have h' : (Op.equal 49 (.slice none 0 c) (.slice none 0 0)).run Tryz.prog w = .ok true w := h 9999
  simp [binOp, h']
 go_enter Tryz.func56, Tryz.ntmps56
 go_wp2
 go_ret
 exact ⟨rfl, rfl⟩
theorem ZqS (b : Addr) (c : Nat) (w : World) : Calls Tryz.prog 56 #[.slice (some b) 0 c] w fun e w' => e = .returned (.slice (some ⟨w.heap.size, 0, none⟩) 0 0) ∧ w' = w.alloc (.cells #[] 5) := by
 have h1 : ∀ w, (binOp .eql 49 (.slice (some b) 0 c) (.slice none 0 0)).run Tryz.prog w = .ok (.bool false) w := fun w => by
  have h : (Op.equal 49 (.slice (some b) 0 c) (.slice none 0 0)).run Tryz.prog w = .ok false w := Zc9 9999 Tryz.underlying49
  simp [binOp, h]
 have h2 : ∀ w, (Instr.buildSlice 49 0 #[]).run Tryz.prog w = .ok (.slice (some ⟨w.heap.size, 0, none⟩) 0 0) (w.alloc (.cells #[] 5)) := fun w => by kernel_rfl
 have hi0 : (Tryz.prog.info? 5).isSome = true := by kernel_rfl
 obtain ⟨i, hi⟩ := Option.isSome_iff_exists.1 hi0
 have h3 : ∀ (w : World) (x : Option Addr) ty, (Builtin.append_ #[49, 49] ty #[.slice x 0 0, .slice (some b) 0 c]).run Tryz.prog w = .ok (.slice x 0 0) w := fun w x ty => Zbl w 49 ty 5 i Tryz.underlying49 hi x (some b) 0 0 c (Nat.le_refl _)
 clear hi hi0
 go_enter Tryz.func56, Tryz.ntmps56
 go_wp2
 go_ret
 exact ⟨rfl, rfl⟩
def kp56 : Keep := fun i => ⟨[], [], []⟩
theorem w56 {T : Tab} (a0 : (List Int)) (hne : a0 ≠ []) (x : (List Int)) (hr : Xa a0 = some x) : ∃ kp fl n, Zs tt T G kp fl n Tryz.f56 [.one (.slice .no (Zk .u8 a0))] = some (.one (.own 1 (Zk .u8 a0)), []) := by
 refine fnE (kp := kp56) (w := true) body56 (by simp) ?_
 unfold c56
 rw [Tryz.ntmps56]
 unfold Xa at hr
 obtain ⟨_, u1, hr⟩ := bs hr
 have u2 := ZE u1
 have n1 : a0.length ≤ 140737488355328 := by omega
 have n2 : a0.length ≤ 9223372036854775807 := by omega
 have ne : Zk .u8 a0 ≠ [] := fun h => hne (by simpa [Zk] using h)
 refine Za rfl (by simp; rfl) ?_
 first
 | (refine Zb ?_; refine Za rfl (by simp [hne, ne]; rfl) ?_)
 | refine Za rfl (by simp [hne, ne]; rfl) ?_
 refine Ze (by simp [bV]) ?_
 refine Zg ?_
 refine Za rfl (by simp [n1, n2]; rfl) ?_
 refine Zi ?_
 simp [Zj]
theorem v56 : ZG Tryz.prog G 56 G56 := by
 refine Zei (e := 1) (t := 5) (N := 0) (rows := fun l : (List Int) => Zk .u8 l) Tryz.func56 (by kernel_rfl) (by kernel_rfl) G56 (fun ps r hF => ?_) rfl (fun l hl r hF => ?_) (fun x c w => ?_)
 ·obtain ⟨x, rfl, h⟩ := Zay hF
  obtain ⟨y, hy, rfl⟩ := Option.map_eq_some_iff.1 h
  unfold Xa at hy
  obtain ⟨_, u1, hy⟩ := bs hy
  obtain rfl := Option.some.inj hy
  exact ⟨x, rfl, rfl⟩
 ·refine ZfK (T := Av.tab []) mixed htt (Av.tab_ok trivial) Tryz.func56 body56 (by kernel_rfl) fun ps r' ho hF' => ?_
  split at hF'
  ·rename_i hps
   subst hps
   injection hF' with hF'
   subst hF'
   obtain ⟨x, hx, h⟩ := Zay hF
   obtain rfl := E56i l x hx
   obtain ⟨y, hy, rfl⟩ := Option.map_eq_some_iff.1 h
   have hy' := hy
   unfold Xa at hy'
   obtain ⟨_, u1, hy'⟩ := bs hy'
   obtain rfl := Option.some.inj hy'
   exact w56 l hl _ hy
  ·cases hF'
 ·cases x with
  | none => exact (Zr7 c w).mono fun e w' h => ⟨none, h.1, .inl h.2⟩
  | some b => exact (ZqS b c w).mono fun e w' h => ⟨_, h.1, .inr h.2⟩
end Go.Proofs.YtbjhgolpnjokbaaGreat
