import Derived.Test.YtbjhgolpnjokbaaLfK
import Derived.Test.YtbjhgolpnjokbaaCode
namespace Go.Proofs.Ytbjhgolpnjokbaa
open Go.RowKit
open Go.Av
open Go.Lc
set_option maxRecDepth 100000
set_option linter.unusedSimpArgs false
set_option linter.unusedVariables false
set_option maxHeartbeats 4000000
variable {G : Glob}
def kp73 : Keep := fun i => if i = 3 then ⟨[3, 6, 7, 8], [], []⟩ else ⟨[], [], []⟩
theorem w73 {T : Tab} (a0 : (List Tapi_Output)) (x : Bool) (hr : Zb8 a0 = some x) : ∃ kp fl n, ZC tt T G kp fl n Try.f73 (E73 a0) = some (R73 a0 x) := by
 simp only [E73, R73]
 refine fnE (kp := kp73) (w := false) body73 (by simp) ?_
 unfold c73
 rw [Try.ntmps73]
 unfold Zb8 at hr
 refine Za rfl (by simp []; rfl) ?_
 refine Za rfl (by simp []; rfl) ?_
 refine Zd ?_
 refine Za rfl (by simp []; rfl) ?_
 refine Zj ?_
 refine Z2 (kq := ⟨[3, 6, 7, 8], [], []⟩) (H := fun (s : Int × Int) => match s with | (p5, p6) => (⟨(und 3 ++ ([.one (.v (.int .i64 p5))] ++ (und 2 ++ ([.one (.slice .no (List.map Zm a0)), .one (.v (.int .i64 (a0.length : Int))), .one (.v (.int .i64 p6))] ++ (und 13)))) : List PV), ([] : Boxes)⟩ : ASt)) (by kernel_rfl) hr (by simp [und, List.replicate, ]) ?_
 rintro ⟨p5, p6⟩ x14r hr14
 simp only [ZbZ] at hr14
 unfold b73_1
 simp only [und, List.replicate, List.cons_append, List.nil_append]
 refine Za rfl (by simp []; rfl) ?_
 by_cases c15 : p6 < (a0.length : Int)
 ·skip
  have c15N := c15
  try simp at c15N
  first | have c15M : (_ = _) = True := eq_true c15N | have c15M := c15N
  rw [if_pos] at hr14
  rotate_left
  ·simp [c15, c15M]
  refine Ze (by simp [bV, c15, c15M]) ?_
  refine Zg ?_
  refine Zj ?_
  obtain ⟨x16, hx16, hr14⟩ := bs hr14
  obtain ⟨hx16a, hx16b⟩ := ZJ hx16
  have hx16c := Zz hx16b
  refine Za rfl (by simp [hx16a, hx16b, hx16c, c15, c15M]; rfl) ?_
  refine Zd ?_
  refine Za rfl (by simp [c15, c15M]; rfl) ?_
  by_cases c17 : IntKind.i64.wrap (2100000000000000 - p5) < x16.1
  ·skip
   rw [if_pos] at hr14
   rotate_left
   ·simp [c15, c15M, c17]
   refine Ze (by simp [bV, c15, c15M, c17]) ?_
   refine Zd ?_
   refine Za rfl (by simp [c15, c15M, c17]; rfl) ?_
   refine Zl ?_
   obtain rfl := Option.some.inj hr14
   simp only [pq, reduceCtorEq]
   rintro rfl
   simp [Zi, c15, c15M, c17, c15N]
  ·skip
   rw [if_neg] at hr14
   rotate_left
   ·simp [c15, c15M, c17]
   refine Zf (by simp [bV, c15, c15M, c17]) ?_
   refine Zg ?_
   refine ZM rfl (by simp [c15, c15M, c17]; rfl) ?_
   simp only [pq, reduceCtorEq]
   refine ZM rfl (by simp [c15, c15M, c17]; rfl) ?_
   obtain rfl := Option.some.inj hr14
   simp only [pq, reduceCtorEq]
   simp [und, List.replicate, Nat.add_assoc, c15, c15M, c17]
 ·skip
  have c15N := c15
  try simp at c15N
  first | have c15M : (_ = _) = True := eq_true c15N | have c15M := c15N
  rw [if_neg] at hr14
  rotate_left
  ·simp [c15, c15M]
  refine Zf (by simp [bV, c15, c15M]) ?_
  refine ZD ?_
  obtain ⟨r18, q18, rfl⟩ := ms hr14
  simp only [pq, reduceCtorEq]
  rintro rfl
  try simp only [pq, reduceCtorEq]
  unfold Ltx_money_k1 at q18
  refine Za rfl (by simp [c15, c15M]; rfl) ?_
  refine Zh ?_
  obtain rfl := Option.some.inj q18
  simp [Zi, c15, c15M, c15N]
def kp54 : Keep := fun i => if i = 9 then ⟨[1, 3, 25, 26, 27], [1, 1000000000023], []⟩ else ⟨[], [], []⟩
theorem w54 {T : Tab} (hO : T.own = fun _ => []) (hT55 : T 55 = some G55) (hT72 : T 72 = some G72) (hT73 : T 73 = some G73) (a0 : Tapi_Tx) (x : Int) (hr : Zbx a0 = some x) : ∃ kp fl n, ZC tt T G kp fl n Try.f54 (E54 a0) = some (R54 a0 x) := by
 simp only [E54, R54]
 refine fnE (kp := kp54) (w := false) body54 (by simp) ?_
 unfold c54
 rw [Try.ntmps54]
 unfold Zbx at hr
 refine Za rfl (by simp []; rfl) ?_
 refine Zd ?_
 obtain ⟨y13, hy13, hr⟩ := bs hr
 have ehy13 := ZsQ hy13
 simp only [E72, R72, nf, nfs] at ehy13
 refine Za rfl (by simp [hO, hT72, ehy13]; rfl) ?_
 by_cases c14 : y13 = true
 ·skip
  rw [if_neg (not_not_intro c14)] at hr
  refine Zf (by simp [bV, c14]) ?_
  refine Zg ?_
  refine Zd ?_
  by_cases c15 : (a0.2.1.length : Int) = 0
  ·skip
   have c15N := c15
   try simp at c15N
   refine Za rfl (by simp [c14, eq_true c15, eq_true c15N]; rfl) ?_
   rw [if_pos] at hr
   rotate_left
   ·simp [c14, eq_true c15, eq_true c15N]
   refine Ze (by simp [bV, c14, eq_true c15, eq_true c15N]) ?_
   refine Zd ?_
   refine Za rfl (by simp [c14, eq_true c15, eq_true c15N]; rfl) ?_
   refine Zl ?_
   obtain rfl := Option.some.inj hr
   simp [Zi, c14, eq_true c15, eq_true c15N]
  ·skip
   have c15N := c15
   try simp at c15N
   first | have c15M : (_ = _) = True := eq_true c15N | have c15M := c15N
   refine Za rfl (by simp [c14, c15, c15M]; rfl) ?_
   by_cases c16 : (a0.2.2.1.length : Int) = 0
   ·skip
    have c16N := c16
    try simp at c16N
    rw [if_pos] at hr
    rotate_left
    ·simp [c14, c15, c15M, eq_true c16, eq_true c16N]
    refine Ze (by simp [bV, c14, c15, c15M, eq_true c16, eq_true c16N]) ?_
    refine Zd ?_
    refine Za rfl (by simp [c14, c15, c15M, eq_true c16, eq_true c16N]; rfl) ?_
    refine Zl ?_
    obtain rfl := Option.some.inj hr
    simp [Zi, c14, c15, c15M, eq_true c16, eq_true c16N, c15N]
   ·skip
    have c16N := c16
    try simp at c16N
    first | have c16M : (_ = _) = True := eq_true c16N | have c16M := c16N
    rw [if_neg] at hr
    rotate_left
    ·simp [c14, c15, c15M, c16, c16M]
    refine Zf (by simp [bV, c14, c15, c15M, c16, c16M]) ?_
    refine Zg ?_
    refine Zd ?_
    obtain ⟨y17, hy17, hr⟩ := bs hr
    have ehy17 := ZsR hy17
    simp only [E73, R73, nf, nfs] at ehy17
    refine Za rfl (by simp [hO, hT73, ehy17, c14, c15, c15M, c16, c16M]; rfl) ?_
    by_cases c18 : y17 = true
    ·skip
     rw [if_neg (not_not_intro c18)] at hr
     refine Zf (by simp [bV, c14, c15, c15M, c16, c16M, c18]) ?_
     refine Zg ?_
     refine Za rfl (by simp [c14, c15, c15M, c16, c16M, c18]; rfl) ?_
     refine Zd ?_
     refine Za rfl (by simp [c14, c15, c15M, c16, c16M, c18]; rfl) ?_
     refine Zj ?_
     refine Z2 (kq := ⟨[1, 3, 25, 26, 27], [1, 1000000000023], []⟩) (H := fun (s : Int × (List (Tapi_OutPoint × Bool))) => match s with | (p7, p8) => (⟨(und 1 ++ ([.ptr 1 0 0 0 4] ++ (und 1 ++ ([.one (.mp 1000000000023 0)] ++ (und 21 ++ ([.one (.slice .no (List.map Zo a0.2.1)), .one (.v (.int .i64 (a0.2.1.length : Int))), .one (.v (.int .i64 p7))] ++ (und 19)))))) : List PV), ([(1, ⟨0, 4, [[.v (.int .u32 a0.1), .slice .no (List.map Zo a0.2.1), .slice .no (List.map Zm a0.2.2.1), .v (.int .u32 a0.2.2.2)]], false, false⟩), (1000000000023, ⟨0, 6, ((arC .u8 (zA 32)) ++ ((.v (.int .u32 0)) :: [])) :: List.map ZaN p8, false, false⟩)] : Boxes)⟩ : ASt)) (by kernel_rfl) hr (by simp [und, List.replicate, c14, c15, c15M, c16, c16M, c18]) ?_
     rintro ⟨p7, p8⟩ x24r hr24
     simp only [Zb0] at hr24
     unfold b54_1
     simp only [und, List.replicate, List.cons_append, List.nil_append]
     refine Za rfl (by simp [c14, c15, c15M, c16, c16M, c18]; rfl) ?_
     by_cases c25 : p7 < (a0.2.1.length : Int)
     ·skip
      have c25N := c25
      try simp at c25N
      first | have c25M : (_ = _) = True := eq_true c25N | have c25M := c25N
      rw [if_pos] at hr24
      rotate_left
      ·simp [c14, c15, c15M, c16, c16M, c18, c25, c25M]
      refine Ze (by simp [bV, c14, c15, c15M, c16, c16M, c18, c25, c25M]) ?_
      refine Zg ?_
      refine Zj ?_
      obtain ⟨x26, hx26, hr24⟩ := bs hr24
      obtain ⟨hx26a, hx26b⟩ := ZJ hx26
      have hx26c := Zz hx26b
      refine Za rfl (by simp [hx26a, hx26b, hx26c, c14, c15, c15M, c16, c16M, c18, c25, c25M]; rfl) ?_
      refine Zd ?_
      refine Za rfl (by simp [c14, c15, c15M, c16, c16M, c18, c25, c25M]; rfl) ?_
      by_cases c27 : (ZcK x26.1 p8).getD false = true
      ·skip
       rw [if_pos] at hr24
       rotate_left
       ·simp [c14, c15, c15M, c16, c16M, c18, c25, c25M, c27]
       refine Ze (by simp [bV, c14, c15, c15M, c16, c16M, c18, c25, c25M, c27]) ?_
       refine Zd ?_
       refine Za rfl (by simp [c14, c15, c15M, c16, c16M, c18, c25, c25M, c27]; rfl) ?_
       refine Zl ?_
       obtain rfl := Option.some.inj hr24
       simp only [pq, reduceCtorEq]
       rintro rfl
       simp [Zi, c14, c15, c15M, c16, c16M, c18, c25, c25M, c27, c15N, c16N, c25N]
      ·skip
       rw [if_neg] at hr24
       rotate_left
       ·simp [c14, c15, c15M, c16, c16M, c18, c25, c25M, c27]
       refine Zf (by simp [bV, c14, c15, c15M, c16, c16M, c18, c25, c25M, c27]) ?_
       refine Zg ?_
       refine ZM rfl (by simp [c14, c15, c15M, c16, c16M, c18, c25, c25M, c27]; rfl) ?_
       simp only [pq, reduceCtorEq]
       refine ZM rfl (by simp [c14, c15, c15M, c16, c16M, c18, c25, c25M, c27]; rfl) ?_
       obtain rfl := Option.some.inj hr24
       simp only [pq, reduceCtorEq]
       simp [und, List.replicate, Nat.add_assoc, c14, c15, c15M, c16, c16M, c18, c25, c25M, c27]
     ·skip
      have c25N := c25
      try simp at c25N
      first | have c25M : (_ = _) = True := eq_true c25N | have c25M := c25N
      rw [if_neg] at hr24
      rotate_left
      ·simp [c14, c15, c15M, c16, c16M, c18, c25, c25M]
      refine Zf (by simp [bV, c14, c15, c15M, c16, c16M, c18, c25, c25M]) ?_
      refine ZD ?_
      obtain ⟨r28, q28, rfl⟩ := ms hr24
      simp only [pq, reduceCtorEq]
      rintro rfl
      try simp only [pq, reduceCtorEq]
      unfold ZgQ at q28
      refine Zd ?_
      by_cases c29 : (ZcK (zA 32, 4294967295) p8).getD false = true
      ·skip
       rw [if_pos] at q28
       rotate_left
       ·simp [c14, c15, c15M, c16, c16M, c18, c25, c25M, c29]
       obtain ⟨z30, hz30, q28⟩ := bs q28
       obtain ⟨y31, hy31, hz30⟩ := bs hz30
       have ehy31 := Zp4 hy31
       simp only [E55, R55, nf, nfs] at ehy31
       obtain rfl := Option.some.inj hz30
       refine Za rfl (by simp [hO, hT55, ehy31, c14, c15, c15M, c16, c16M, c18, c25, c25M, c29]; rfl) ?_
       by_cases c32 : y31 = true
       ·skip
        rw [if_neg] at q28
        rotate_left
        ·simp [c14, c15, c15M, c16, c16M, c18, c25, c25M, c29, c32]
        refine Zf (by simp [bV, c14, c15, c15M, c16, c16M, c18, c25, c25M, c29, c32]) ?_
        refine Zg ?_
        refine Za rfl (by simp [c14, c15, c15M, c16, c16M, c18, c25, c25M, c29, c32]; rfl) ?_
        refine Zh ?_
        obtain rfl := Option.some.inj q28
        simp [Zi, c14, c15, c15M, c16, c16M, c18, c25, c25M, c29, c32, c15N, c16N, c25N]
       ·skip
        rw [if_pos] at q28
        rotate_left
        ·simp [c14, c15, c15M, c16, c16M, c18, c25, c25M, c29, c32]
        refine Ze (by simp [bV, c14, c15, c15M, c16, c16M, c18, c25, c25M, c29, c32]) ?_
        refine Zd ?_
        refine Za rfl (by simp [c14, c15, c15M, c16, c16M, c18, c25, c25M, c29, c32]; rfl) ?_
        refine Zl ?_
        obtain rfl := Option.some.inj q28
        simp [Zi, c14, c15, c15M, c16, c16M, c18, c25, c25M, c29, c32, c15N, c16N, c25N]
      ·skip
       rw [if_neg] at q28
       rotate_left
       ·simp [c14, c15, c15M, c16, c16M, c18, c25, c25M, c29]
       obtain ⟨z33, hz33, q28⟩ := bs q28
       obtain rfl := Option.some.inj hz33
       refine Za rfl (by simp [c14, c15, c15M, c16, c16M, c18, c25, c25M, c29]; rfl) ?_
       rw [if_neg] at q28
       rotate_left
       ·simp [c14, c15, c15M, c16, c16M, c18, c25, c25M, c29]
       refine Zf (by simp [bV, c14, c15, c15M, c16, c16M, c18, c25, c25M, c29]) ?_
       refine Zg ?_
       refine Za rfl (by simp [c14, c15, c15M, c16, c16M, c18, c25, c25M, c29]; rfl) ?_
       refine Zh ?_
       obtain rfl := Option.some.inj q28
       simp [Zi, c14, c15, c15M, c16, c16M, c18, c25, c25M, c29, c15N, c16N, c25N]
    ·skip
     rw [if_pos c18] at hr
     refine Ze (by simp [bV, c14, c15, c15M, c16, c16M, c18]) ?_
     refine Zd ?_
     refine Za rfl (by simp [c14, c15, c15M, c16, c16M, c18]; rfl) ?_
     refine Zl ?_
     obtain rfl := Option.some.inj hr
     simp [Zi, c14, c15, c15M, c16, c16M, c18, c15N, c16N]
 ·skip
  rw [if_pos c14] at hr
  refine Ze (by simp [bV, c14]) ?_
  refine Zd ?_
  refine Za rfl (by simp [c14]; rfl) ?_
  refine Zl ?_
  obtain rfl := Option.some.inj hr
  simp [Zi, c14]
def kp75 : Keep := fun i => if i = 3 then ⟨[4, 7, 8, 9], [], []⟩ else ⟨[], [], []⟩
theorem w75 {T : Tab} (a0 : (List Tapi_Coin)) (x : Int × Bool) (hr : Zby a0 = some x) : ∃ kp fl n, ZC tt T G kp fl n Try.f75 (E75 a0) = some (R75 a0 x) := by
 simp only [E75, R75]
 refine fnE (kp := kp75) (w := false) body75 (by simp) ?_
 unfold c75
 rw [Try.ntmps75]
 unfold Zby at hr
 refine Za rfl (by simp []; rfl) ?_
 refine Za rfl (by simp []; rfl) ?_
 refine Zd ?_
 refine Za rfl (by simp []; rfl) ?_
 refine Zj ?_
 refine Z2 (kq := ⟨[4, 7, 8, 9], [], []⟩) (H := fun (s : Int × Int) => match s with | (p5, p6) => (⟨(und 4 ++ ([.one (.v (.int .i64 p5))] ++ (und 2 ++ ([.one (.slice .no (List.map ZL a0)), .one (.v (.int .i64 (a0.length : Int))), .one (.v (.int .i64 p6))] ++ (und 22)))) : List PV), ([] : Boxes)⟩ : ASt)) (by kernel_rfl) hr (by simp [und, List.replicate, ]) ?_
 rintro ⟨p5, p6⟩ x15r hr15
 simp only [Zbl] at hr15
 unfold b75_1
 simp only [und, List.replicate, List.cons_append, List.nil_append]
 refine Za rfl (by simp []; rfl) ?_
 by_cases c16 : p6 < (a0.length : Int)
 ·skip
  have c16N := c16
  try simp at c16N
  first | have c16M : (_ = _) = True := eq_true c16N | have c16M := c16N
  rw [if_pos] at hr15
  rotate_left
  ·simp [c16, c16M]
  refine Ze (by simp [bV, c16, c16M]) ?_
  refine Zg ?_
  refine Zj ?_
  obtain ⟨x17, hx17, hr15⟩ := bs hr15
  obtain ⟨hx17a, hx17b⟩ := ZJ hx17
  have hx17c := Zz hx17b
  refine Za rfl (by simp [hx17a, hx17b, hx17c, c16, c16M]; rfl) ?_
  refine Zd ?_
  by_cases c18 : x17.2.1.1 < 0
  ·skip
   refine Za rfl (by simp [c16, c16M, c18]; rfl) ?_
   rw [if_pos] at hr15
   rotate_left
   ·simp [c16, c16M, c18]
   refine Ze (by simp [bV, c16, c16M, c18]) ?_
   refine Zd ?_
   refine Za rfl (by simp [c16, c16M, c18]; rfl) ?_
   refine Zl ?_
   obtain rfl := Option.some.inj hr15
   simp only [pq, reduceCtorEq]
   rintro rfl
   simp [Zi, c16, c16M, c18, c16N]
  ·skip
   refine Za rfl (by simp [c16, c16M, c18]; rfl) ?_
   by_cases c19 : IntKind.i64.wrap (2100000000000000 - p5) < x17.2.1.1
   ·skip
    rw [if_pos] at hr15
    rotate_left
    ·simp [c16, c16M, c18, c19]
    refine Ze (by simp [bV, c16, c16M, c18, c19]) ?_
    refine Zd ?_
    refine Za rfl (by simp [c16, c16M, c18, c19]; rfl) ?_
    refine Zl ?_
    obtain rfl := Option.some.inj hr15
    simp only [pq, reduceCtorEq]
    rintro rfl
    simp [Zi, c16, c16M, c18, c19, c16N]
   ·skip
    rw [if_neg] at hr15
    rotate_left
    ·simp [c16, c16M, c18, c19]
    refine Zf (by simp [bV, c16, c16M, c18, c19]) ?_
    refine Zg ?_
    refine ZM rfl (by simp [c16, c16M, c18, c19]; rfl) ?_
    simp only [pq, reduceCtorEq]
    refine ZM rfl (by simp [c16, c16M, c18, c19]; rfl) ?_
    obtain rfl := Option.some.inj hr15
    simp only [pq, reduceCtorEq]
    simp [und, List.replicate, Nat.add_assoc, c16, c16M, c18, c19]
 ·skip
  have c16N := c16
  try simp at c16N
  first | have c16M : (_ = _) = True := eq_true c16N | have c16M := c16N
  rw [if_neg] at hr15
  rotate_left
  ·simp [c16, c16M]
  refine Zf (by simp [bV, c16, c16M]) ?_
  refine ZD ?_
  obtain ⟨r20, q20, rfl⟩ := ms hr15
  simp only [pq, reduceCtorEq]
  rintro rfl
  try simp only [pq, reduceCtorEq]
  unfold Zis at q20
  refine Za rfl (by simp [c16, c16M]; rfl) ?_
  refine Zh ?_
  obtain rfl := Option.some.inj q20
  simp [Zi, c16, c16M, c16N]
def kp56 : Keep := fun i => if i = 7 then ⟨[1, 2, 24, 25, 26], [2], []⟩ else if i = 16 then ⟨[9, 49, 50, 51], [], []⟩ else ⟨[], [], []⟩
theorem w56 {T : Tab} (hO : T.own = fun _ => []) (hT54 : T 54 = some G54) (hT75 : T 75 = some G75) (a0 : Tapi_Tx) (a1 : (List Tapi_Coin)) (x : Int × Int) (hr : Zbz a0 a1 = some x) : ∃ kp fl n, ZC tt T G kp fl n Try.f56 (E56 (a0, a1)) = some (R56 (a0, a1) x) := by
 simp only [E56, R56]
 refine fnE (kp := kp56) (w := false) body56 (by simp) ?_
 unfold c56
 rw [Try.ntmps56]
 unfold Zbz at hr
 refine Za rfl (by simp []; rfl) ?_
 refine Zd ?_
 obtain ⟨y21, hy21, hr⟩ := bs hr
 have ehy21 := Zp7 hy21
 simp only [E54, R54, nf, nfs] at ehy21
 refine Za rfl (by simp [hO, hT54, ehy21]; rfl) ?_
 refine Zd ?_
 refine Za rfl (by simp []; rfl) ?_
 by_cases c22 : y21 = 0
 ·skip
  rw [if_neg (not_not_intro c22)] at hr
  refine Zf (by simp [bV, eq_true c22]) ?_
  refine Zg ?_
  refine Zd ?_
  refine Za rfl (by simp [eq_true c22]; rfl) ?_
  by_cases c23 : (a1.length : Int) = (a0.2.1.length : Int)
  ·skip
   have c23N := c23
   try simp at c23N
   rw [if_neg (not_not_intro c23)] at hr
   refine Zf (by simp [bV, eq_true c22, eq_true c23, eq_true c23N]) ?_
   refine Zg ?_
   refine Zd ?_
   refine Za rfl (by simp [eq_true c22, eq_true c23, eq_true c23N]; rfl) ?_
   refine Zj ?_
   refine Z2 (kq := ⟨[1, 2, 24, 25, 26], [2], []⟩) (H := fun (s : Int) => match s with | p7 => (⟨(und 1 ++ ([.one (.slice .no (List.map ZL a1)), .ptr 2 0 0 0 4] ++ (und 21 ++ ([.one (.slice .no (List.map ZL a1)), .one (.v (.int .i64 (a1.length : Int))), .one (.v (.int .i64 p7))] ++ (und 36)))) : List PV), ([(2, ⟨0, 4, [[.v (.int .u32 a0.1), .slice .no (List.map Zo a0.2.1), .slice .no (List.map Zm a0.2.2.1), .v (.int .u32 a0.2.2.2)]], false, false⟩)] : Boxes)⟩ : ASt)) (by kernel_rfl) hr (by simp [und, List.replicate, eq_true c22, eq_true c23, eq_true c23N]) ?_
   rintro p7 x31r hr31
   simp only [Zbm] at hr31
   unfold b56_1
   simp only [und, List.replicate, List.cons_append, List.nil_append]
   refine Za rfl (by simp [eq_true c22, eq_true c23, eq_true c23N]; rfl) ?_
   by_cases c32 : p7 < (a1.length : Int)
   ·skip
    have c32N := c32
    try simp at c32N
    first | have c32M : (_ = _) = True := eq_true c32N | have c32M := c32N
    rw [if_pos] at hr31
    rotate_left
    ·simp [eq_true c22, eq_true c23, eq_true c23N, c32, c32M]
    refine Ze (by simp [bV, eq_true c22, eq_true c23, eq_true c23N, c32, c32M]) ?_
    refine Zg ?_
    refine Zj ?_
    obtain ⟨x33, hx33, hr31⟩ := bs hr31
    obtain ⟨hx33a, hx33b⟩ := ZJ hx33
    have hx33c := Zz hx33b
    refine Za rfl (by simp [hx33a, hx33b, hx33c, eq_true c22, eq_true c23, eq_true c23N, c32, c32M]; rfl) ?_
    obtain ⟨x34, hx34, hr31⟩ := bs hr31
    obtain ⟨hx34a, hx34b⟩ := ZJ hx34
    have hx34c := Zz hx34b
    refine ZR rfl (by simp [hx34a, hx34b, hx34c, eq_true c22, eq_true c23, eq_true c23N, c32, c32M]; first | exact ⟨rfl, rfl⟩ | rfl) (by kernel_rfl) ?_
    by_cases c35 : x33.1.1 = x34.1.1
    ·skip
     by_cases c36 : x33.1.2 = x34.1.2
     ·skip
      rw [if_neg] at hr31
      rotate_left
      ·simp [eq_true c22, eq_true c23, eq_true c23N, c32, c32M, eq_true c35, eq_true c36]
      refine ZI (by simp [bV, eq_true c22, eq_true c23, eq_true c23N, c32, c32M, eq_true c35, eq_true c36]) ?_
      refine Yb ?_
      simp only [pq, reduceCtorEq]
      refine ZM rfl (by simp [eq_true c22, eq_true c23, eq_true c23N, c32, c32M, eq_true c35, eq_true c36]; rfl) ?_
      obtain rfl := Option.some.inj hr31
      simp only [pq, reduceCtorEq]
      simp [und, List.replicate, Nat.add_assoc, eq_true c22, eq_true c23, eq_true c23N, c32, c32M, eq_true c35, eq_true c36]
     ·skip
      rw [if_pos] at hr31
      rotate_left
      ·simp [eq_true c22, eq_true c23, eq_true c23N, c32, c32M, eq_true c35, c36]
      refine Zy (by simp [bV, eq_true c22, eq_true c23, eq_true c23N, c32, c32M, eq_true c35, c36]) ?_
      refine Za rfl (by simp [eq_true c22, eq_true c23, eq_true c23N, c32, c32M, eq_true c35, c36]; rfl) ?_
      refine Zh ?_
      obtain rfl := Option.some.inj hr31
      simp only [pq, reduceCtorEq]
      rintro rfl
      simp [Zi, eq_true c22, eq_true c23, eq_true c23N, c32, c32M, eq_true c35, c36, c32N]
    ·skip
     rw [if_pos] at hr31
     rotate_left
     ·simp [eq_true c22, eq_true c23, eq_true c23N, c32, c32M, c35]
     refine Zy (by simp [bV, eq_true c22, eq_true c23, eq_true c23N, c32, c32M, c35]) ?_
     refine Za rfl (by simp [eq_true c22, eq_true c23, eq_true c23N, c32, c32M, c35]; rfl) ?_
     refine Zh ?_
     obtain rfl := Option.some.inj hr31
     simp only [pq, reduceCtorEq]
     rintro rfl
     simp [Zi, eq_true c22, eq_true c23, eq_true c23N, c32, c32M, c35, c32N]
   ·skip
    have c32N := c32
    try simp at c32N
    first | have c32M : (_ = _) = True := eq_true c32N | have c32M := c32N
    rw [if_neg] at hr31
    rotate_left
    ·simp [eq_true c22, eq_true c23, eq_true c23N, c32, c32M]
    refine Zf (by simp [bV, eq_true c22, eq_true c23, eq_true c23N, c32, c32M]) ?_
    refine ZD ?_
    obtain ⟨r37, q37, rfl⟩ := ms hr31
    simp only [pq, reduceCtorEq]
    rintro rfl
    try simp only [pq, reduceCtorEq]
    unfold ZdR at q37
    obtain ⟨y38, hy38, q37⟩ := bs q37
    have ehy38 := ZsS hy38
    simp only [E75, R75, nf, nfs] at ehy38
    refine Za rfl (by simp [hO, hT75, ehy38, eq_true c22, eq_true c23, eq_true c23N, c32, c32M]; rfl) ?_
    refine Zd ?_
    refine Za rfl (by simp [eq_true c22, eq_true c23, eq_true c23N, c32, c32M]; rfl) ?_
    by_cases c39 : y38.2 = true
    ·skip
     rw [if_neg (not_not_intro c39)] at q37
     refine Zf (by simp [bV, eq_true c22, eq_true c23, eq_true c23N, c32, c32M, c39]) ?_
     refine Zg ?_
     refine Zd ?_
     refine Za rfl (by simp [eq_true c22, eq_true c23, eq_true c23N, c32, c32M, c39]; rfl) ?_
     refine Zj ?_
     refine Z2 (kq := ⟨[9, 49, 50, 51], [], []⟩) (H := fun (s : Int × Int) => match s with | (p15, p16) => (⟨(und 9 ++ ([.one (.v (.int .i64 p15))] ++ (und 39 ++ ([.one (.slice .no (List.map Zm a0.2.2.1)), .one (.v (.int .i64 (a0.2.2.1.length : Int))), .one (.v (.int .i64 p16))] ++ (und 11)))) : List PV), ([] : Boxes)⟩ : ASt)) (by kernel_rfl) q37 (by simp [und, List.replicate, eq_true c22, eq_true c23, eq_true c23N, c32, c32M, c39]) ?_
     rintro ⟨p15, p16⟩ x44r hr44
     simp only [ZfY] at hr44
     unfold b56_2
     simp only [und, List.replicate, List.cons_append, List.nil_append]
     refine Za rfl (by simp [eq_true c22, eq_true c23, eq_true c23N, c32, c32M, c39]; rfl) ?_
     by_cases c45 : p16 < (a0.2.2.1.length : Int)
     ·skip
      have c45N := c45
      try simp at c45N
      first | have c45M : (_ = _) = True := eq_true c45N | have c45M := c45N
      rw [if_pos] at hr44
      rotate_left
      ·simp [eq_true c22, eq_true c23, eq_true c23N, c32, c32M, c39, c45, c45M]
      refine Ze (by simp [bV, eq_true c22, eq_true c23, eq_true c23N, c32, c32M, c39, c45, c45M]) ?_
      refine Zg ?_
      refine Zj ?_
      obtain ⟨x46, hx46, hr44⟩ := bs hr44
      obtain ⟨hx46a, hx46b⟩ := ZJ hx46
      have hx46c := Zz hx46b
      refine Za rfl (by simp [hx46a, hx46b, hx46c, eq_true c22, eq_true c23, eq_true c23N, c32, c32M, c39, c45, c45M]; rfl) ?_
      refine ZM rfl (by simp [eq_true c22, eq_true c23, eq_true c23N, c32, c32M, c39, c45, c45M]; rfl) ?_
      simp only [pq, reduceCtorEq]
      refine ZM rfl (by simp [eq_true c22, eq_true c23, eq_true c23N, c32, c32M, c39, c45, c45M]; rfl) ?_
      obtain rfl := Option.some.inj hr44
      simp only [pq, reduceCtorEq]
      simp [und, List.replicate, Nat.add_assoc, eq_true c22, eq_true c23, eq_true c23N, c32, c32M, c39, c45, c45M]
     ·skip
      have c45N := c45
      try simp at c45N
      first | have c45M : (_ = _) = True := eq_true c45N | have c45M := c45N
      rw [if_neg] at hr44
      rotate_left
      ·simp [eq_true c22, eq_true c23, eq_true c23N, c32, c32M, c39, c45, c45M]
      refine Zf (by simp [bV, eq_true c22, eq_true c23, eq_true c23N, c32, c32M, c39, c45, c45M]) ?_
      refine ZD ?_
      obtain ⟨r47, q47, rfl⟩ := ms hr44
      simp only [pq, reduceCtorEq]
      rintro rfl
      try simp only [pq, reduceCtorEq]
      unfold Zit at q47
      refine Zd ?_
      refine Za rfl (by simp [eq_true c22, eq_true c23, eq_true c23N, c32, c32M, c39, c45, c45M]; rfl) ?_
      by_cases c48 : p15 < 0
      ·skip
       rw [if_pos c48] at q47
       refine Ze (by simp [bV, eq_true c22, eq_true c23, eq_true c23N, c32, c32M, c39, c45, c45M, c48]) ?_
       refine Zd ?_
       refine Za rfl (by simp [eq_true c22, eq_true c23, eq_true c23N, c32, c32M, c39, c45, c45M, c48]; rfl) ?_
       refine Zl ?_
       obtain rfl := Option.some.inj q47
       simp [Zi, eq_true c22, eq_true c23, eq_true c23N, c32, c32M, c39, c45, c45M, c48, c32N, c45N]
      ·skip
       rw [if_neg c48] at q47
       refine Zf (by simp [bV, eq_true c22, eq_true c23, eq_true c23N, c32, c32M, c39, c45, c45M, c48]) ?_
       refine Zg ?_
       refine Za rfl (by simp [eq_true c22, eq_true c23, eq_true c23N, c32, c32M, c39, c45, c45M, c48]; rfl) ?_
       refine Zh ?_
       obtain rfl := Option.some.inj q47
       simp [Zi, eq_true c22, eq_true c23, eq_true c23N, c32, c32M, c39, c45, c45M, c48, c32N, c45N]
    ·skip
     rw [if_pos c39] at q37
     refine Ze (by simp [bV, eq_true c22, eq_true c23, eq_true c23N, c32, c32M, c39]) ?_
     refine Zd ?_
     refine Za rfl (by simp [eq_true c22, eq_true c23, eq_true c23N, c32, c32M, c39]; rfl) ?_
     refine Zl ?_
     obtain rfl := Option.some.inj q37
     simp [Zi, eq_true c22, eq_true c23, eq_true c23N, c32, c32M, c39, c32N]
  ·skip
   have c23N := c23
   try simp at c23N
   first | have c23M : (_ = _) = True := eq_true c23N | have c23M := c23N
   rw [if_pos c23] at hr
   refine Ze (by simp [bV, eq_true c22, c23, c23M]) ?_
   refine Zd ?_
   refine Za rfl (by simp [eq_true c22, c23, c23M]; rfl) ?_
   refine Zl ?_
   obtain rfl := Option.some.inj hr
   simp [Zi, eq_true c22, c23, c23M, c23N]
 ·skip
  rw [if_pos c22] at hr
  refine Ze (by simp [bV, c22]) ?_
  refine Zd ?_
  refine Za rfl (by simp [c22]; rfl) ?_
  refine Zl ?_
  obtain rfl := Option.some.inj hr
  simp [Zi, c22]
def kp25 : Keep := fun i => if i = 4 then ⟨[1, 18, 19, 20], [1], []⟩ else ⟨[], [], []⟩
theorem w25 {T : Tab} (hO : T.own = fun _ => []) (hT54 : T 54 = some G54) (hT55 : T 55 = some G55) (hT56 : T 56 = some G56) (a0 : Tapi_Plan) (x : Bool) (hr : Xw a0 = some x) : ∃ kp fl n, ZC tt T G kp fl n Try.f25 (E25 a0) = some (R25 a0 x) := by
 simp only [E25, R25]
 refine fnE (kp := kp25) (w := false) body25 (by simp) ?_
 unfold c25
 rw [Try.ntmps25]
 unfold Xw at hr
 refine Za rfl (by simp []; rfl) ?_
 refine Zd ?_
 obtain ⟨y11, hy11, hr⟩ := bs hr
 have ehy11 := Zp7 hy11
 simp only [E54, R54, nf, nfs] at ehy11
 by_cases c12 : y11 = 0
 ·skip
  rw [if_neg] at hr
  rotate_left
  ·simp [eq_true c12]
  obtain ⟨z13, hz13, hr⟩ := bs hr
  obtain ⟨y14, hy14, hz13⟩ := bs hz13
  have ehy14 := Zp4 hy14
  simp only [E55, R55, nf, nfs] at ehy14
  obtain rfl := Option.some.inj hz13
  refine Za rfl (by simp [hO, hT54, ehy11, hT55, ehy14, eq_true c12]; rfl) ?_
  by_cases c15 : y14 = true
  ·skip
   rw [if_pos] at hr
   rotate_left
   ·simp [eq_true c12, c15]
   refine Ze (by simp [bV, eq_true c12, c15]) ?_
   refine Zd ?_
   refine Za rfl (by simp [eq_true c12, c15]; rfl) ?_
   refine Zl ?_
   obtain rfl := Option.some.inj hr
   simp [Zi, eq_true c12, c15]
  ·skip
   rw [if_neg] at hr
   rotate_left
   ·simp [eq_true c12, c15]
   refine Zf (by simp [bV, eq_true c12, c15]) ?_
   refine Zg ?_
   refine Zd ?_
   refine Za rfl (by simp [eq_true c12, c15]; rfl) ?_
   refine Zj ?_
   refine Z2 (kq := ⟨[1, 18, 19, 20], [1], []⟩) (H := fun (s : Int) => match s with | p7 => (⟨(und 1 ++ ([.ptr 1 0 0 0 7] ++ (und 16 ++ ([.one (.slice .no (List.map Zo a0.1.2.1)), .one (.v (.int .i64 (a0.1.2.1.length : Int))), .one (.v (.int .i64 p7))] ++ (und 36)))) : List PV), ([(1, ⟨0, 7, [[.v (.int .u32 a0.1.1), .slice .no (List.map Zo a0.1.2.1), .slice .no (List.map Zm a0.1.2.2.1), .v (.int .u32 a0.1.2.2.2), .slice .no (List.map ZL a0.2.1), .v (.int .i64 a0.2.2.1), .v (.int .i64 a0.2.2.2)]], false, false⟩)] : Boxes)⟩ : ASt)) (by kernel_rfl) hr (by simp [und, List.replicate, eq_true c12, c15]) ?_
   rintro p7 x21r hr21
   simp only [YU] at hr21
   unfold b25_1
   simp only [und, List.replicate, List.cons_append, List.nil_append]
   refine Za rfl (by simp [eq_true c12, c15]; rfl) ?_
   by_cases c22 : p7 < (a0.1.2.1.length : Int)
   ·skip
    have c22N := c22
    try simp at c22N
    first | have c22M : (_ = _) = True := eq_true c22N | have c22M := c22N
    rw [if_pos] at hr21
    rotate_left
    ·simp [eq_true c12, c15, c22, c22M]
    refine Ze (by simp [bV, eq_true c12, c15, c22, c22M]) ?_
    refine Zg ?_
    refine Zj ?_
    obtain ⟨x23, hx23, hr21⟩ := bs hr21
    obtain ⟨hx23a, hx23b⟩ := ZJ hx23
    have hx23c := Zz hx23b
    refine Za rfl (by simp [hx23a, hx23b, hx23c, eq_true c12, c15, c22, c22M]; rfl) ?_
    refine Za rfl (by simp [eq_true c12, c15, c22, c22M]; rfl) ?_
    by_cases c24 : 0 < (x23.2.2.length : Int)
    ·skip
     have c24N := c24
     try simp at c24N
     first | have c24M : (_ = _) = True := eq_true c24N | have c24M := c24N
     rw [if_pos c24] at hr21
     refine Zy (by simp [bV, eq_true c12, c15, c22, c22M, c24, c24M]) ?_
     refine Za rfl (by simp [eq_true c12, c15, c22, c22M, c24, c24M]; rfl) ?_
     refine Zh ?_
     obtain rfl := Option.some.inj hr21
     simp only [pq, reduceCtorEq]
     rintro rfl
     simp [Zi, eq_true c12, c15, c22, c22M, c24, c24M, c22N, c24N]
    ·skip
     have c24N := c24
     try simp at c24N
     first | have c24M : (_ = _) = True := eq_true c24N | have c24M := c24N
     have c24L : ¬ 0 < x23.2.2.length := by omega
     rw [if_neg c24] at hr21
     refine ZI (by simp [bV, eq_true c12, c15, c22, c22M, c24, c24M, c24L]) ?_
     refine Yb ?_
     simp only [pq, reduceCtorEq]
     refine ZM rfl (by simp [eq_true c12, c15, c22, c22M, c24, c24M, c24L]; rfl) ?_
     obtain rfl := Option.some.inj hr21
     simp only [pq, reduceCtorEq]
     simp [und, List.replicate, Nat.add_assoc, eq_true c12, c15, c22, c22M, c24, c24M, c24L]
   ·skip
    have c22N := c22
    try simp at c22N
    first | have c22M : (_ = _) = True := eq_true c22N | have c22M := c22N
    rw [if_neg] at hr21
    rotate_left
    ·simp [eq_true c12, c15, c22, c22M]
    refine Zf (by simp [bV, eq_true c12, c15, c22, c22M]) ?_
    refine ZD ?_
    obtain ⟨r25, q25, rfl⟩ := ms hr21
    simp only [pq, reduceCtorEq]
    rintro rfl
    try simp only [pq, reduceCtorEq]
    unfold ZcN at q25
    refine Zd ?_
    by_cases c26 : a0.2.2.2 < (-1)
    ·skip
     refine Za rfl (by simp [eq_true c12, c15, c22, c22M, c26]; rfl) ?_
     rw [if_pos] at q25
     rotate_left
     ·simp [eq_true c12, c15, c22, c22M, c26]
     refine Ze (by simp [bV, eq_true c12, c15, c22, c22M, c26]) ?_
     refine Zd ?_
     refine Za rfl (by simp [eq_true c12, c15, c22, c22M, c26]; rfl) ?_
     refine Zl ?_
     obtain rfl := Option.some.inj q25
     simp [Zi, eq_true c12, c15, c22, c22M, c26, c22N]
    ·skip
     refine Za rfl (by simp [eq_true c12, c15, c22, c22M, c26]; rfl) ?_
     by_cases c27 : (a0.1.2.2.1.length : Int) ≤ a0.2.2.2
     ·skip
      have c27N := c27
      try simp at c27N
      first | have c27M : (_ = _) = True := eq_true c27N | have c27M := c27N
      rw [if_pos] at q25
      rotate_left
      ·simp [eq_true c12, c15, c22, c22M, c26, c27, c27M]
      refine Ze (by simp [bV, eq_true c12, c15, c22, c22M, c26, c27, c27M]) ?_
      refine Zd ?_
      refine Za rfl (by simp [eq_true c12, c15, c22, c22M, c26, c27, c27M]; rfl) ?_
      refine Zl ?_
      obtain rfl := Option.some.inj q25
      simp [Zi, eq_true c12, c15, c22, c22M, c26, c27, c27M, c22N, c27N]
     ·skip
      have c27N := c27
      try simp at c27N
      first | have c27M : (_ = _) = True := eq_true c27N | have c27M := c27N
      rw [if_neg] at q25
      rotate_left
      ·simp [eq_true c12, c15, c22, c22M, c26, c27, c27M]
      refine Zf (by simp [bV, eq_true c12, c15, c22, c22M, c26, c27, c27M]) ?_
      refine Zg ?_
      obtain ⟨y28, hy28, q25⟩ := bs q25
      have ehy28 := ZsT hy28
      simp only [E56, R56, nf, nfs] at ehy28
      refine Za rfl (by simp [hO, hT56, ehy28, eq_true c12, c15, c22, c22M, c26, c27, c27M]; rfl) ?_
      by_cases c29 : y28.2 = 0
      ·skip
       refine Za rfl (by simp [eq_true c12, c15, c22, c22M, c26, c27, c27M, eq_true c29]; rfl) ?_
       refine Zh ?_
       obtain rfl := Option.some.inj q25
       simp [Zi, eq_true c12, c15, c22, c22M, c26, c27, c27M, eq_true c29, c22N, c27N]
      ·skip
       refine Za rfl (by simp [eq_true c12, c15, c22, c22M, c26, c27, c27M, c29]; rfl) ?_
       refine Zh ?_
       obtain rfl := Option.some.inj q25
       simp [Zi, eq_true c12, c15, c22, c22M, c26, c27, c27M, c29, c22N, c27N]
 ·skip
  rw [if_pos] at hr
  rotate_left
  ·simp [c12]
  obtain ⟨z30, hz30, hr⟩ := bs hr
  obtain rfl := Option.some.inj hz30
  refine Za rfl (by simp [hO, hT54, ehy11, c12]; rfl) ?_
  rw [if_pos] at hr
  rotate_left
  ·simp [c12]
  refine Ze (by simp [bV, c12]) ?_
  refine Zd ?_
  refine Za rfl (by simp [c12]; rfl) ?_
  refine Zl ?_
  obtain rfl := Option.some.inj hr
  simp [Zi, c12]
def kp76 : Keep := fun i => ⟨[], [], []⟩
theorem w76 {T : Tab} (x : (Arr 4)) (hr : Lgroup_Order  = some x) : ∃ kp fl n, ZC tt T G kp fl n Try.f76 (E76 ()) = some (R76 () x) := by
 simp only [E76, R76]
 refine fnE (kp := kp76) (w := false) body76 (by simp) ?_
 unfold c76
 rw [Try.ntmps76]
 unfold Lgroup_Order at hr
 refine Za rfl (by simp []; rfl) ?_
 have ap1 := ZcE (k := .u64) (zA 4) (i := 0) (by decide) (18446744073709533559)
 have ap2 := ZcE (k := .u64) ((zA 4).put 0 18446744073709533559) (i := 1) (by decide) (18446744073709551615)
 have ap3 := ZcE (k := .u64) (((zA 4).put 0 18446744073709533559).put 1 18446744073709551615) (i := 2) (by decide) (18446744073709551615)
 have ap4 := ZcE (k := .u64) ((((zA 4).put 0 18446744073709533559).put 1 18446744073709551615).put 2 18446744073709551615) (i := 3) (by decide) (9223372036854775807)
 refine Za rfl (by simp [ap1, ap2, ap3, ap4]; rfl) ?_
 refine Zh ?_
 obtain rfl := Option.some.inj hr
 simp [Zi, ap1, ap2, ap3, ap4]
def kp57 : Keep := fun i => ⟨[], [], []⟩
theorem w57 {T : Tab} (hO : T.own = fun _ => []) (hT48 : T 48 = some G48) (hT76 : T 76 = some G76) (a0 : (Arr 4)) (x : Bool) (hr : X1 a0 = some x) : ∃ kp fl n, ZC tt T G kp fl n Try.f57 (E57 a0) = some (R57 a0 x) := by
 simp only [E57, R57]
 refine fnE (kp := kp57) (w := false) body57 (by simp) ?_
 unfold c57
 rw [Try.ntmps57]
 unfold X1 at hr
 refine Za rfl (by simp []; rfl) ?_
 obtain ⟨y3, hy3, hr⟩ := bs hr
 have ehy3 := ZsV hy3
 simp only [E76, R76, nf, nfs] at ehy3
 obtain ⟨y4, hy4, hr⟩ := bs hr
 have ehy4 := Zp2 hy4
 simp only [E48, R48, nf, nfs] at ehy4
 refine ZR rfl (by simp [hO, hT76, ehy3, hT48, ehy4]; first | exact ⟨rfl, rfl⟩ | rfl) (by kernel_rfl) ?_
 refine Zh ?_
 obtain rfl := Option.some.inj hr
 simp [Zi, hO, hT76, ehy3, hT48, ehy4]
def kp26 : Keep := fun i => ⟨[], [], []⟩
theorem w26 {T : Tab} (hO : T.own = fun _ => []) (hT32 : T 32 = some G32) (hT57 : T 57 = some G57) (a0 : (List Int)) (x : Tapi_Signature × Int) (hr : Zav a0 = some x) : ∃ kp fl n, ZC tt T G kp fl n Try.f26 (E26 a0) = some (R26 a0 x) := by
 simp only [E26, R26]
 refine fnE (kp := kp26) (w := false) body26 (by simp) ?_
 unfold c26
 rw [Try.ntmps26]
 unfold Zav at hr
 refine Za rfl (by simp []; rfl) ?_
 refine Zd ?_
 refine Za rfl (by simp []; rfl) ?_
 by_cases c10 : (a0.length : Int) = 64
 ·skip
  have c10N := c10
  try simp at c10N
  rw [if_neg (not_not_intro c10)] at hr
  refine Zf (by simp [bV, eq_true c10, eq_true c10N]) ?_
  refine Zg ?_
  obtain ⟨_, u11, hr⟩ := bs hr
  have u11_0 := ZG u11
  have sf12 : 32 ≤ a0.length := by omega
  obtain ⟨_, u13, hr⟩ := bs hr
  have u13_0 := ZG u13
  have fp14 := Zi9 (k := .u8) (l := (a0).take 32) (o := 0) (n := 32) (by simpa using u13_0)
  simp only [List.drop_zero, Nat.zero_add, Zc2, Zfd] at fp14
  have fp14l : 32 ≤ (Zk .u8 ((a0).take 32)).flatten.length := by rw [Ziu]; exact u13_0
  simp only [Zc2, Zfd] at fp14l
  have fp14m := fp14l
  try simp at fp14m
  obtain ⟨y15, hy15, hr⟩ := bs hr
  have ehy15 := Znq hy15
  simp only [E32, R32, nf, nfs] at ehy15
  obtain ⟨_, u16, hr⟩ := bs hr
  have u16_0 := ZG u16
  have sf17 : 32 ≤ a0.length := by omega
  obtain ⟨_, u18, hr⟩ := bs hr
  have u18_0 := ZG u18
  have u18_0N := u18_0
  try simp at u18_0N
  have fp19 := Zi9 (k := .u8) (l := (a0).drop 32) (o := 0) (n := 32) (by simpa using u18_0)
  simp only [List.drop_zero, Nat.zero_add, Zc2, Zfd] at fp19
  have fp19l : 32 ≤ (Zk .u8 ((a0).drop 32)).flatten.length := by rw [Ziu]; exact u18_0
  simp only [Zc2, Zfd] at fp19l
  have fp19m := fp19l
  try simp at fp19m
  obtain ⟨y20, hy20, hr⟩ := bs hr
  have ehy20 := Znq hy20
  simp only [E32, R32, nf, nfs] at ehy20
  refine ZR rfl (by simp [u11_0, sf12, u13_0, fp14, fp14l, fp14m, hO, hT32, ehy15, u16_0, sf17, u18_0N, u18_0, fp19, fp19l, fp19m, ehy20, eq_true c10, eq_true c10N]; first | exact ⟨rfl, rfl⟩ | rfl) (by kernel_rfl) ?_
  refine Zd ?_
  obtain ⟨y21, hy21, hr⟩ := bs hr
  have ehy21 := Zp8 hy21
  simp only [E57, R57, nf, nfs] at ehy21
  by_cases c22 : y21 = true
  ·skip
   rw [if_neg] at hr
   rotate_left
   ·simp [eq_true c10, eq_true c10N, c22]
   obtain ⟨z23, hz23, hr⟩ := bs hr
   obtain ⟨y24, hy24, hz23⟩ := bs hz23
   have ehy24 := Zp8 hy24
   simp only [E57, R57, nf, nfs] at ehy24
   obtain rfl := Option.some.inj hz23
   refine Za rfl (by simp [hO, hT57, ehy21, ehy24, eq_true c10, eq_true c10N, c22]; rfl) ?_
   by_cases c25 : y24 = true
   ·skip
    rw [if_neg] at hr
    rotate_left
    ·simp [eq_true c10, eq_true c10N, c22, c25]
    refine Zf (by simp [bV, eq_true c10, eq_true c10N, c22, c25]) ?_
    refine Zg ?_
    refine Za rfl (by simp [eq_true c10, eq_true c10N, c22, c25]; rfl) ?_
    refine Zh ?_
    obtain rfl := Option.some.inj hr
    simp [Zi, eq_true c10, eq_true c10N, c22, c25]
   ·skip
    rw [if_pos] at hr
    rotate_left
    ·simp [eq_true c10, eq_true c10N, c22, c25]
    refine Ze (by simp [bV, eq_true c10, eq_true c10N, c22, c25]) ?_
    refine Zd ?_
    refine Za rfl (by simp [eq_true c10, eq_true c10N, c22, c25]; rfl) ?_
    refine Zl ?_
    obtain rfl := Option.some.inj hr
    simp [Zi, eq_true c10, eq_true c10N, c22, c25]
  ·skip
   rw [if_pos] at hr
   rotate_left
   ·simp [eq_true c10, eq_true c10N, c22]
   obtain ⟨z26, hz26, hr⟩ := bs hr
   obtain rfl := Option.some.inj hz26
   refine Za rfl (by simp [hO, hT57, ehy21, eq_true c10, eq_true c10N, c22]; rfl) ?_
   rw [if_pos] at hr
   rotate_left
   ·simp [eq_true c10, eq_true c10N, c22]
   refine Ze (by simp [bV, eq_true c10, eq_true c10N, c22]) ?_
   refine Zd ?_
   refine Za rfl (by simp [eq_true c10, eq_true c10N, c22]; rfl) ?_
   refine Zl ?_
   obtain rfl := Option.some.inj hr
   simp [Zi, eq_true c10, eq_true c10N, c22]
 ·skip
  have c10N := c10
  try simp at c10N
  first | have c10M : (_ = _) = True := eq_true c10N | have c10M := c10N
  rw [if_pos c10] at hr
  refine Ze (by simp [bV, c10, c10M]) ?_
  refine Zd ?_
  refine Za rfl (by simp [c10, c10M]; rfl) ?_
  refine Zl ?_
  obtain rfl := Option.some.inj hr
  simp [Zi, c10, c10M, c10N]
end Go.Proofs.Ytbjhgolpnjokbaa
