import Derived.Test.YtmjbklblgpnagaaLfK
import Derived.Test.YtmjbklblgpnagaaCode
import Derived.Test.YtmjbklblgpnagaaBl
namespace Go.Proofs.Ytmjbklblgpnagaa
open Go.RowKit
open Go.Av
open Go.Lc
set_option maxRecDepth 100000
set_option linter.unusedSimpArgs false
set_option linter.unusedVariables false
set_option maxHeartbeats 4000000
variable {G : Glob}
def kp49_12 : Keep := fun i => ⟨[], [], []⟩
theorem Zou {T : Tab} (hO : T.own = fun d => if d = 10 then [[1000001]] else []) (hT62 : T 62 = some G62_10) (hT63 : T 63 = some G63) (a0 : (List Int)) (x : (List Int)) (hr : YK a0 = some x) : ∃ kp fl n, ZI tt T G kp fl n Try.f49 (Zdn a0) = some (ZeQ a0 x) := by
 simp only [Zdn, ZeQ]
 refine fnE (kp := kp49_12) (w := false) body49 (by simp) ?_
 unfold c49
 rw [Try.ntmps49]
 unfold YK at hr
 refine Za rfl (by simp [-Zd, Zb]; rfl) ?_
 obtain ⟨y4, hy4, hr⟩ := bs hr
 have ehy4 := Zlq hy4
 simp only [E63, R63, nf, nfs] at ehy4
 try simp only [Zb] at ehy4
 obtain ⟨y5, hy5, hr⟩ := bs hr
 have ehy5 := Zlt hy5
 simp only [XT, Zal, nf, nfs] at ehy5
 try simp only [Zb] at ehy5
 obtain ⟨_, u6, hr⟩ := bs hr
 have u6_0 := Zp u6
 have ck7 := Ya (k := .u64) u6_0
 refine ZA rfl (by simp [-Zd, Zb, hO, hT63, ehy4, hT62, ehy5, ck7, u6_0]; rfl) ?_
 obtain ⟨_, u8, hr⟩ := bs hr
 have u8_0 := Zp u8
 try simp only [u6_0] at u8_0
 obtain rfl := Option.some.inj hr
 simp [-Zd, Zb, Zn, hO, hT63, ehy4, hT62, ehy5, ck7, u6_0, u8_0]
def kp30 : Keep := fun i => if i = 3 then ⟨[2, 3, 4, 9, 12, 13, 14], [4, 28], [(9, none, 28, 1)]⟩ else ⟨[], [], []⟩
theorem w30 {T : Tab} (hO : T.own = fun d => if d = 31 then [[1000001]] else []) (hT47 : T 47 = some G47) (hT48 : T 48 = some G48) (hT49 : T 49 = some G49_12) (a0 : (Arr 2)) (a1 : (List (List Int))) (a2 : Int) (a3 : Int) (x : (List Int)) (hr : XW a0 a1 a2 a3 = some x) : ∃ kp fl n, ZI tt T G kp fl n Try.f30 (E30 (a0, a1, a2, a3)) = some (R30 (a0, a1, a2, a3) x) := by
 simp only [E30, R30]
 refine fnE (kp := kp30) (w := true) body30 (by simp) ?_
 unfold c30
 rw [Try.ntmps30]
 unfold XW at hr
 refine Za rfl (by simp []; rfl) ?_
 refine Za rfl (by simp []; rfl) ?_
 refine Zf ?_
 refine Za rfl (by simp []; rfl) ?_
 refine Zk ?_
 refine ZU (kq := ⟨[2, 3, 4, 9, 12, 13, 14], [4, 28], [(9, none, 28, 1)]⟩) (H := fun (s : Int × (List Int)) => match s with | (p10, p11) => (⟨(und 2 ++ ([.one (.v (.int .i64 a2)), .one (.v (.int .u64 a3)), .ptr 4 0 0 0 2] ++ (und 4 ++ ([.one (.ms 28 0 0 (p11.length) 1)] ++ (und 2 ++ ([.one (.slice .no (List.map Ym a1)), .one (.v (.int .i64 (a1.length : Int))), .one (.v (.int .i64 p10))] ++ (und 18)))))) : List PV), ([(4, ⟨0, 2, [arC .u64 a0], false, false⟩), (28, ⟨0, 1, Zi .u64 p11, false, true⟩)] : Boxes)⟩ : ASt)) (by kernel_rfl) hr (by simp [und, List.replicate, ]) ?_
 rintro ⟨p10, p11⟩ x29r hr29
 simp only [Za8] at hr29
 unfold b30_1
 simp only [und, List.replicate, List.cons_append, List.nil_append]
 refine Za rfl (by simp []; rfl) ?_
 by_cases c30 : p10 < (a1.length : Int)
 ·skip
  have c30N := c30
  try simp at c30N
  first | have c30M : (_ = _) = True := eq_true c30N | have c30M := c30N
  rw [if_pos] at hr29
  rotate_left
  ·simp [c30, c30M]
  refine Ze (by simp [bV, c30, c30M]) ?_
  refine Zh ?_
  refine Zk ?_
  obtain ⟨x31, hx31, hr29⟩ := bs hr29
  obtain ⟨hx31a, hx31b⟩ := Y8 hx31
  have hx31c := Zq hx31b
  refine Za rfl (by simp [hx31a, hx31b, hx31c, c30, c30M]; rfl) ?_
  obtain ⟨y32, hy32, hr29⟩ := bs hr29
  have ehy32 := Zn2 hy32
  simp only [E48, R48, nf, nfs] at ehy32
  obtain ⟨y33, hy33, hr29⟩ := bs hr29
  have ehy33 := Zn1 hy33
  simp only [E47, R47, nf, nfs] at ehy33
  obtain ⟨_, u34, hr29⟩ := bs hr29
  have u34_0 := Zp u34
  have n1_u34_0 : (p11.length + 1) * 8 ≤ 140737488355328 := by omega
  have n2_u34_0 : p11.length + 1 ≤ 9223372036854775807 := by omega
  refine ZA rfl (by simp [hO, hT48, ehy32, hT47, ehy33, n1_u34_0, n2_u34_0, c30, c30M]; rfl) ?_
  simp only [pq, reduceCtorEq]
  refine ZA rfl (by simp [c30, c30M]; rfl) ?_
  obtain rfl := Option.some.inj hr29
  simp only [pq, reduceCtorEq]
  simp [und, List.replicate, Nat.add_assoc, c30, c30M]
 ·skip
  have c30N := c30
  try simp at c30N
  first | have c30M : (_ = _) = True := eq_true c30N | have c30M := c30N
  rw [if_neg] at hr29
  rotate_left
  ·simp [c30, c30M]
  refine Zg (by simp [bV, c30, c30M]) ?_
  refine Zo ?_
  obtain ⟨r35, q35, rfl⟩ := ms hr29
  simp only [pq, reduceCtorEq]
  rintro rfl
  try simp only [pq, reduceCtorEq]
  unfold ZcA at q35
  obtain ⟨y36, hy36, q35⟩ := bs q35
  have ehy36 := Zlu hy36
  simp only [Zdn, ZeQ, nf, nfs] at ehy36
  obtain ⟨_, u37, q35⟩ := bs q35
  have u37_0 := Zp u37
  have ck38 := Ya (k := .u64) u37_0
  refine Za rfl (by simp [hO, hT49, ehy36, ck38, u37_0, c30, c30M]; rfl) ?_
  refine Za rfl (by simp [c30, c30M, u37_0]; rfl) ?_
  refine Zx ?_
  obtain rfl := Option.some.inj q35
  simp [Zn, c30, c30M, u37_0, c30N]
def kp17 : Keep := fun i => if i = 8 then ⟨[2, 3, 4, 8, 10, 11, 34, 35, 36], [4, 8, 51, 1000000000033], [(11, none, 51, 1)]⟩ else if i = 1000013 then ⟨[2, 3, 4, 8, 10, 11, 34, 35, 36], [4, 8, 51, 1000000000033], []⟩ else ⟨[], [], []⟩
theorem w17 {T : Tab} (hO : T.own = fun _ => []) (hT13 : T 13 = some G13) (hT30 : T 30 = some G30) (a0 : (Arr 2)) (a1 : (List (List Int))) (a2 : Int) (a3 : Int) (x : Tapi_Filter × Int) (hr : X6 a0 a1 a2 a3 = some x) : ∃ kp fl n, ZI tt T G kp fl n Try.f17 (E17 (a0, a1, a2, a3)) = some (R17 (a0, a1, a2, a3) x) := by
 simp only [E17, R17]
 refine fnE (kp := kp17) (w := false) body17 (by simp) ?_
 unfold c17
 rw [Try.ntmps17]
 unfold X6 at hr
 refine Za rfl (by simp []; rfl) ?_
 refine Zf ?_
 refine Za rfl (by simp []; rfl) ?_
 by_cases c25 : 4096 < (a1.length : Int)
 ·skip
  have c25N := c25
  try simp at c25N
  first | have c25M : (_ = _) = True := eq_true c25N | have c25M := c25N
  rw [if_pos c25] at hr
  refine Ze (by simp [bV, c25, c25M]) ?_
  refine Zf ?_
  refine Za rfl (by simp [c25, c25M]; rfl) ?_
  refine Zl ?_
  obtain rfl := Option.some.inj hr
  simp [Zn, c25, c25M, c25N]
 ·skip
  have c25N := c25
  try simp at c25N
  first | have c25M : (_ = _) = True := eq_true c25N | have c25M := c25N
  rw [if_neg c25] at hr
  refine Zg (by simp [bV, c25, c25M]) ?_
  refine Zh ?_
  refine Zf ?_
  by_cases c26 : a3 < 1
  ·skip
   refine Za rfl (by simp [c25, c25M, c26]; rfl) ?_
   rw [if_pos] at hr
   rotate_left
   ·simp [c25, c25M, c26]
   refine Ze (by simp [bV, c25, c25M, c26]) ?_
   refine Zf ?_
   refine Za rfl (by simp [c25, c25M, c26]; rfl) ?_
   refine Zl ?_
   obtain rfl := Option.some.inj hr
   simp [Zn, c25, c25M, c26, c25N]
  ·skip
   by_cases c27 : 1099511627776 < a3
   ·skip
    refine Za rfl (by simp [c25, c25M, c26, c27]; rfl) ?_
    rw [if_pos] at hr
    rotate_left
    ·simp [c25, c25M, c26, c27]
    refine Ze (by simp [bV, c25, c25M, c26, c27]) ?_
    refine Zf ?_
    refine Za rfl (by simp [c25, c25M, c26, c27]; rfl) ?_
    refine Zl ?_
    obtain rfl := Option.some.inj hr
    simp [Zn, c25, c25M, c26, c27, c25N]
   ·skip
    by_cases c28 : a2 < 0
    ·skip
     refine Za rfl (by simp [c25, c25M, c26, c27, c28]; rfl) ?_
     rw [if_pos] at hr
     rotate_left
     ·simp [c25, c25M, c26, c27, c28]
     refine Ze (by simp [bV, c25, c25M, c26, c27, c28]) ?_
     refine Zf ?_
     refine Za rfl (by simp [c25, c25M, c26, c27, c28]; rfl) ?_
     refine Zl ?_
     obtain rfl := Option.some.inj hr
     simp [Zn, c25, c25M, c26, c27, c28, c25N]
    ·skip
     refine Za rfl (by simp [c25, c25M, c26, c27, c28]; rfl) ?_
     by_cases c29 : 32 < a2
     ·skip
      rw [if_pos] at hr
      rotate_left
      ·simp [c25, c25M, c26, c27, c28, c29]
      refine Ze (by simp [bV, c25, c25M, c26, c27, c28, c29]) ?_
      refine Zf ?_
      refine Za rfl (by simp [c25, c25M, c26, c27, c28, c29]; rfl) ?_
      refine Zl ?_
      obtain rfl := Option.some.inj hr
      simp [Zn, c25, c25M, c26, c27, c28, c29, c25N]
     ·skip
      rw [if_neg] at hr
      rotate_left
      ·simp [c25, c25M, c26, c27, c28, c29]
      refine Zg (by simp [bV, c25, c25M, c26, c27, c28, c29]) ?_
      refine Zh ?_
      refine Za rfl (by simp [c25, c25M, c26, c27, c28, c29]; rfl) ?_
      refine Za rfl (by simp [c25, c25M, c26, c27, c28, c29]; rfl) ?_
      refine Zf ?_
      refine Za rfl (by simp [c25, c25M, c26, c27, c28, c29]; rfl) ?_
      refine Zk ?_
      refine ZU (kq := ⟨[2, 3, 4, 8, 10, 11, 34, 35, 36], [4, 8, 51, 1000000000033], [(11, none, 51, 1)]⟩) (H := fun (s : Int × (List (ByteArray × Bool)) × (List (List Int))) => match s with | (p11, p12, p13) => (⟨(und 2 ++ ([.one (.v (.int .i64 a2)), .one (.v (.int .u64 a3)), .ptr 4 0 0 0 2] ++ (und 3 ++ ([.ptr 8 0 0 0 2] ++ (und 1 ++ ([.one (.mp 1000000000033 0), .one (.ms 51 0 0 (p13.length) 1)] ++ (und 22 ++ ([.one (.slice .no (List.map Ym a1)), .one (.v (.int .i64 (a1.length : Int))), .one (.v (.int .i64 p11))] ++ (und 26)))))))) : List PV), ([(4, ⟨0, 2, [arC .u64 a0], false, false⟩), (8, ⟨0, 2, [[.v (.int .i64 0), .slice .nil []]], false, false⟩), (51, ⟨0, 1, List.map Ym p13, false, true⟩), (1000000000033, ⟨0, 4, ([.v (.string (⟨#[]⟩))]) :: List.map Zdy p12, false, false⟩)] : Boxes)⟩ : ASt)) (by kernel_rfl) hr (by simp [und, List.replicate, c25, c25M, c26, c27, c28, c29]) ?_
      rintro ⟨p11, p12, p13⟩ x39r hr39
      simp only [ZaG] at hr39
      unfold b17_1
      simp only [und, List.replicate, List.cons_append, List.nil_append]
      refine Za rfl (by simp [c25, c25M, c26, c27, c28, c29]; rfl) ?_
      by_cases c40 : p11 < (a1.length : Int)
      ·skip
       have c40N := c40
       try simp at c40N
       first | have c40M : (_ = _) = True := eq_true c40N | have c40M := c40N
       rw [if_pos] at hr39
       rotate_left
       ·simp [c25, c25M, c26, c27, c28, c29, c40, c40M]
       refine Ze (by simp [bV, c25, c25M, c26, c27, c28, c29, c40, c40M]) ?_
       refine Zh ?_
       refine Zk ?_
       obtain ⟨x41, hx41, hr39⟩ := bs hr39
       obtain ⟨hx41a, hx41b⟩ := Y8 hx41
       have hx41c := Zq hx41b
       refine Za rfl (by simp [hx41a, hx41b, hx41c, c25, c25M, c26, c27, c28, c29, c40, c40M]; rfl) ?_
       refine Za rfl (by simp [c25, c25M, c26, c27, c28, c29, c40, c40M]; rfl) ?_
       refine ZbR hr39 (.normal) (fun (s : (List (ByteArray × Bool)) × (List (List Int))) => match s with | (p22, p23) => (⟨(und 2 ++ ([.one (.v (.int .i64 a2)), .one (.v (.int .u64 a3)), .ptr 4 0 0 0 2] ++ (und 3 ++ ([.ptr 8 0 0 0 2] ++ (und 1 ++ ([.one (.mp 1000000000033 0), .one (.ms 51 0 0 (p23.length) 1)] ++ (und 22 ++ ([.one (.slice .no (List.map Ym a1)), .one (.v (.int .i64 (a1.length : Int))), .one (.v (.int .i64 p11))] ++ (und 26)))))))) : List PV), ([(4, ⟨0, 2, [arC .u64 a0], false, false⟩), (8, ⟨0, 2, [[.v (.int .i64 0), .slice .nil []]], false, false⟩), (51, ⟨0, 1, List.map Ym p23, false, true⟩), (1000000000033, ⟨0, 4, ([.v (.string (⟨#[]⟩))]) :: List.map Zdy p22, false, false⟩)] : Boxes)⟩ : ASt)) (fun (s : (List (ByteArray × Bool)) × (List (List Int))) => match s with | (p22, p23) => Zad p11 p22 p23) ?_ ?_
       ·skip
        rintro ⟨p22, p23⟩ hk44
        change Zad p11 p22 p23 = _ at hk44
        simp only [pq, reduceCtorEq]
        simp only [und, List.replicate, List.cons_append, List.nil_append]
        unfold Zad at hk44
        refine ZbH rfl (kq := ⟨[2, 3, 4, 8, 10, 11, 34, 35, 36], [4, 8, 51, 1000000000033], []⟩) rfl (by simp [Ys, c25, c25M, c26, c27, c28, c29, c40, c40M]; rfl) (by simp [c25, c25M, c26, c27, c28, c29, c40, c40M]; rfl) ?_
        obtain rfl := Option.some.inj hk44
        simp only [pq, reduceCtorEq]
        simp [und, List.replicate, Nat.add_assoc, c25, c25M, c26, c27, c28, c29, c40, c40M]
       ·skip
        intro J44
        simp only [pq, reduceCtorEq] at J44
        by_cases c45 : (Zde (ZbS x41) p12).getD false = true
        ·skip
         rw [if_neg] at hr39
         rotate_left
         ·simp [c25, c25M, c26, c27, c28, c29, c40, c40M, c45]
         refine YI (by simp [bV, c25, c25M, c26, c27, c28, c29, c40, c40M, c45]) ?_
         refine XA ?_
         simp only [pq, reduceCtorEq]
         exact ZK (key := 1000013) (kq := ⟨[2, 3, 4, 8, 10, 11, 34, 35, 36], [4, 8, 51, 1000000000033], []⟩) rfl rfl rfl (by simp [und, List.replicate, c25, c25M, c26, c27, c28, c29, c40, c40M, c45]) (J44 (p12, p13) hr39)
        ·skip
         rw [if_pos] at hr39
         rotate_left
         ·simp [c25, c25M, c26, c27, c28, c29, c40, c40M, c45]
         refine Yo (by simp [bV, c25, c25M, c26, c27, c28, c29, c40, c40M, c45]) ?_
         refine Za rfl (by simp [c25, c25M, c26, c27, c28, c29, c40, c40M, c45]; rfl) ?_
         obtain ⟨_, u46, hr39⟩ := bs hr39
         have u46_0 := Zp u46
         have n1_u46_0 : (p13.length + 1) * 24 ≤ 140737488355328 := by omega
         have n2_u46_0 : p13.length + 1 ≤ 9223372036854775807 := by omega
         refine ZA rfl (by simp [n1_u46_0, n2_u46_0, c25, c25M, c26, c27, c28, c29, c40, c40M, c45]; rfl) ?_
         simp only [pq, reduceCtorEq]
         exact ZK (key := 1000013) (kq := ⟨[2, 3, 4, 8, 10, 11, 34, 35, 36], [4, 8, 51, 1000000000033], []⟩) rfl rfl rfl (by simp [und, List.replicate, c25, c25M, c26, c27, c28, c29, c40, c40M, c45]) (J44 (Zdv (ZbS x41) true p12, p13 ++ [x41]) hr39)
      ·skip
       have c40N := c40
       try simp at c40N
       first | have c40M : (_ = _) = True := eq_true c40N | have c40M := c40N
       rw [if_neg] at hr39
       rotate_left
       ·simp [c25, c25M, c26, c27, c28, c29, c40, c40M]
       refine Zg (by simp [bV, c25, c25M, c26, c27, c28, c29, c40, c40M]) ?_
       refine Zo ?_
       obtain ⟨r47, q47, rfl⟩ := ms hr39
       simp only [pq, reduceCtorEq]
       rintro rfl
       try simp only [pq, reduceCtorEq]
       unfold ZcV at q47
       obtain ⟨y48, hy48, q47⟩ := bs q47
       have ehy48 := Zlv hy48
       simp only [E30, R30, nf, nfs] at ehy48
       obtain ⟨y49, hy49, q47⟩ := bs q47
       have ehy49 := Zll hy49
       simp only [E13, R13, nf, nfs] at ehy49
       refine Za rfl (by simp [hO, hT30, ehy48, hT13, ehy49, c25, c25M, c26, c27, c28, c29, c40, c40M]; rfl) ?_
       refine Zx ?_
       obtain rfl := Option.some.inj q47
       simp [Zn, hO, hT30, ehy48, hT13, ehy49, c25, c25M, c26, c27, c28, c29, c40, c40M, c25N, c40N]
def kp12 : Keep := fun i => ⟨[], [], []⟩
theorem w12 {T : Tab} (hO : T.own = fun _ => []) (hT13 : T 13 = some G13) (hT17 : T 17 = some G17) (x : Bool) (hr : Llaw19_sane  = some x) : ∃ kp fl n, ZI tt T G kp fl n Try.f12 (E12 ()) = some (R12 () x) := by
 simp only [E12, R12]
 refine fnE (kp := kp12) (w := false) body12 (by simp) ?_
 unfold c12
 rw [Try.ntmps12]
 unfold Llaw19_sane at hr
 refine Za rfl (by simp []; rfl) ?_
 obtain ⟨y5, hy5, hr⟩ := bs hr
 have ehy5 := Zll hy5
 simp only [E13, R13, nf, nfs] at ehy5
 refine Za rfl (by simp [List.range, List.range.loop, hO, hT13, ehy5]; rfl) ?_
 obtain ⟨y6, hy6, hr⟩ := bs hr
 have ehy6 := Zn7 hy6
 simp only [E17, R17, nf, nfs] at ehy6
 try simp only [Zm2, ZkR, Zl9] at ehy6
 refine Za rfl (by simp [hO, hT17, ehy6]; rfl) ?_
 by_cases c7 : y5.2 = 0
 ·skip
  by_cases c8 : y5.1.1 = 2
  ·skip
   by_cases c9 : (y5.1.2.length : Int) = 1
   ·skip
    have c9N := c9
    try simp at c9N
    rw [if_pos] at hr
    rotate_left
    ·simp [eq_true c7, eq_true c8, eq_true c9, eq_true c9N]
    obtain ⟨z10, hz10, hr⟩ := bs hr
    obtain ⟨x11, hx11, hz10⟩ := bs hz10
    have hx11c := Zq hx11
    obtain rfl := Option.some.inj hz10
    by_cases c12 : x11 = 40
    ·skip
     by_cases c13 : y6.2 = 0
     ·skip
      by_cases c14 : y6.1.1 = 0
      ·skip
       refine Za rfl (by simp [hx11, hx11c, eq_true c7, eq_true c8, eq_true c9, eq_true c9N, eq_true c12, eq_true c13, eq_true c14]; rfl) ?_
       refine Zx ?_
       obtain rfl := Option.some.inj hr
       simp [Zn, hx11, hx11c, eq_true c7, eq_true c8, eq_true c9, eq_true c9N, eq_true c12, eq_true c13, eq_true c14]
      ·skip
       refine Za rfl (by simp [hx11, hx11c, eq_true c7, eq_true c8, eq_true c9, eq_true c9N, eq_true c12, eq_true c13, c14]; rfl) ?_
       refine Zx ?_
       obtain rfl := Option.some.inj hr
       simp [Zn, hx11, hx11c, eq_true c7, eq_true c8, eq_true c9, eq_true c9N, eq_true c12, eq_true c13, c14]
     ·skip
      refine Za rfl (by simp [hx11, hx11c, eq_true c7, eq_true c8, eq_true c9, eq_true c9N, eq_true c12, c13]; rfl) ?_
      refine Zx ?_
      obtain rfl := Option.some.inj hr
      simp [Zn, hx11, hx11c, eq_true c7, eq_true c8, eq_true c9, eq_true c9N, eq_true c12, c13]
    ·skip
     refine Za rfl (by simp [hx11, hx11c, eq_true c7, eq_true c8, eq_true c9, eq_true c9N, c12]; rfl) ?_
     refine Zx ?_
     obtain rfl := Option.some.inj hr
     simp [Zn, hx11, hx11c, eq_true c7, eq_true c8, eq_true c9, eq_true c9N, c12]
   ·skip
    have c9N := c9
    try simp at c9N
    first | have c9M : (_ = _) = True := eq_true c9N | have c9M := c9N
    rw [if_neg] at hr
    rotate_left
    ·simp [eq_true c7, eq_true c8, c9, c9M]
    obtain ⟨z15, hz15, hr⟩ := bs hr
    obtain rfl := Option.some.inj hz15
    refine Za rfl (by simp [eq_true c7, eq_true c8, c9, c9M]; rfl) ?_
    refine Zx ?_
    obtain rfl := Option.some.inj hr
    simp [Zn, eq_true c7, eq_true c8, c9, c9M, c9N]
  ·skip
   rw [if_neg] at hr
   rotate_left
   ·simp [eq_true c7, c8]
   obtain ⟨z16, hz16, hr⟩ := bs hr
   obtain rfl := Option.some.inj hz16
   refine Za rfl (by simp [eq_true c7, c8]; rfl) ?_
   refine Zx ?_
   obtain rfl := Option.some.inj hr
   simp [Zn, eq_true c7, c8]
 ·skip
  rw [if_neg] at hr
  rotate_left
  ·simp [c7]
  obtain ⟨z17, hz17, hr⟩ := bs hr
  obtain rfl := Option.some.inj hz17
  refine Za rfl (by simp [c7]; rfl) ?_
  refine Zx ?_
  obtain rfl := Option.some.inj hr
  simp [Zn, c7]
def kp16 : Keep := fun i => if i = 4 then ⟨[2, 13, 14, 15], [], []⟩ else ⟨[], [], []⟩
theorem w16 {T : Tab} (a0 : (List (List Int))) (a1 : Int) (a2 : Int) (x : Bool) (hr : ZaR a0 a1 a2 = some x) : ∃ kp fl n, ZI tt T G kp fl n Try.f16 (E16 (a0, a1, a2)) = some (R16 (a0, a1, a2) x) := by
 simp only [E16, R16]
 refine fnE (kp := kp16) (w := false) body16 (by simp) ?_
 unfold c16
 rw [Try.ntmps16]
 unfold ZaR at hr
 refine Za rfl (by simp []; rfl) ?_
 refine Zf ?_
 refine Za rfl (by simp []; rfl) ?_
 by_cases c7 : a1 < (a0.length : Int)
 ·skip
  have c7N := c7
  try simp at c7N
  first | have c7M : (_ = _) = True := eq_true c7N | have c7M := c7N
  rw [if_pos c7] at hr
  refine Ze (by simp [bV, c7, c7M]) ?_
  refine Zf ?_
  refine Za rfl (by simp [c7, c7M]; rfl) ?_
  refine Zl ?_
  obtain rfl := Option.some.inj hr
  simp [Zn, c7, c7M, c7N]
 ·skip
  have c7N := c7
  try simp at c7N
  first | have c7M : (_ = _) = True := eq_true c7N | have c7M := c7N
  rw [if_neg c7] at hr
  refine Zg (by simp [bV, c7, c7M]) ?_
  refine Zh ?_
  refine Zf ?_
  refine Za rfl (by simp [c7, c7M]; rfl) ?_
  refine Zk ?_
  refine ZU (kq := ⟨[2, 13, 14, 15], [], []⟩) (H := fun (s : Int) => match s with | p4 => (⟨(und 2 ++ ([.one (.v (.int .i64 a2))] ++ (und 10 ++ ([.one (.slice .no (List.map Ym a0)), .one (.v (.int .i64 (a0.length : Int))), .one (.v (.int .i64 p4))] ++ (und 8)))) : List PV), ([] : Boxes)⟩ : ASt)) (by kernel_rfl) hr (by simp [und, List.replicate, c7, c7M]) ?_
  rintro p4 x13r hr13
  simp only [Zbl] at hr13
  unfold b16_1
  simp only [und, List.replicate, List.cons_append, List.nil_append]
  refine Za rfl (by simp [c7, c7M]; rfl) ?_
  by_cases c14 : p4 < (a0.length : Int)
  ·skip
   have c14N := c14
   try simp at c14N
   first | have c14M : (_ = _) = True := eq_true c14N | have c14M := c14N
   rw [if_pos] at hr13
   rotate_left
   ·simp [c7, c7M, c14, c14M]
   refine Ze (by simp [bV, c7, c7M, c14, c14M]) ?_
   refine Zh ?_
   refine Zk ?_
   obtain ⟨x15, hx15, hr13⟩ := bs hr13
   obtain ⟨hx15a, hx15b⟩ := Y8 hx15
   have hx15c := Zq hx15b
   refine Za rfl (by simp [hx15a, hx15b, hx15c, c7, c7M, c14, c14M]; rfl) ?_
   refine Za rfl (by simp [c7, c7M, c14, c14M]; rfl) ?_
   by_cases c16 : a2 < (x15.length : Int)
   ·skip
    have c16N := c16
    try simp at c16N
    first | have c16M : (_ = _) = True := eq_true c16N | have c16M := c16N
    rw [if_pos c16] at hr13
    refine Yo (by simp [bV, c7, c7M, c14, c14M, c16, c16M]) ?_
    refine Za rfl (by simp [c7, c7M, c14, c14M, c16, c16M]; rfl) ?_
    refine Zx ?_
    obtain rfl := Option.some.inj hr13
    simp only [pq, reduceCtorEq]
    rintro rfl
    simp [Zn, c7, c7M, c14, c14M, c16, c16M, c7N, c14N, c16N]
   ·skip
    have c16N := c16
    try simp at c16N
    first | have c16M : (_ = _) = True := eq_true c16N | have c16M := c16N
    rw [if_neg c16] at hr13
    refine YI (by simp [bV, c7, c7M, c14, c14M, c16, c16M]) ?_
    refine XA ?_
    simp only [pq, reduceCtorEq]
    refine ZA rfl (by simp [c7, c7M, c14, c14M, c16, c16M]; rfl) ?_
    obtain rfl := Option.some.inj hr13
    simp only [pq, reduceCtorEq]
    simp [und, List.replicate, Nat.add_assoc, c7, c7M, c14, c14M, c16, c16M]
  ·skip
   have c14N := c14
   try simp at c14N
   first | have c14M : (_ = _) = True := eq_true c14N | have c14M := c14N
   rw [if_neg] at hr13
   rotate_left
   ·simp [c7, c7M, c14, c14M]
   refine Zg (by simp [bV, c7, c7M, c14, c14M]) ?_
   refine Zo ?_
   obtain ⟨r17, q17, rfl⟩ := ms hr13
   simp only [pq, reduceCtorEq]
   rintro rfl
   try simp only [pq, reduceCtorEq]
   unfold Lkeep_Items_k1 at q17
   refine Za rfl (by simp [c7, c7M, c14, c14M]; rfl) ?_
   refine Zx ?_
   obtain rfl := Option.some.inj q17
   simp [Zn, c7, c7M, c14, c14M, c7N, c14N]
def kp54 : Keep := fun i => ⟨[], [], []⟩
theorem w54 {T : Tab} (a0 : Tapi_Bits) (a1 : Int) (x : Bool) (hr : ZaP a0 a1 = some x) : ∃ kp fl n, ZI tt T G kp fl n Try.f54 (E54 (a0, a1)) = some (R54 (a0, a1) x) := by
 simp only [E54, R54]
 refine fnE (kp := kp54) (w := false) body54 (by simp) ?_
 unfold c54
 rw [Try.ntmps54]
 unfold ZaP at hr
 refine Za rfl (by simp []; rfl) ?_
 obtain ⟨x3, hx3, hr⟩ := bs hr
 obtain ⟨hx3a, hx3b⟩ := Y8 hx3
 have hx3c := Zq hx3b
 obtain ⟨_, u4, hr⟩ := bs hr
 have u4_0 := Zp u4
 refine Za rfl (by simp [hx3a, hx3b, hx3c, u4_0]; rfl) ?_
 refine Zx ?_
 obtain rfl := Option.some.inj hr
 simp [Zn, hx3a, hx3b, hx3c, u4_0]
def kp44 : Keep := fun i => if i = 4 then ⟨[1, 3], [1], []⟩ else ⟨[], [], []⟩
theorem w44 {T : Tab} (hO : T.own = fun _ => []) (hT54 : T 54 = some G54) (a0 : Tapi_Bits) (x : Bool) (hr : X5 a0 = some x) : ∃ kp fl n, ZI tt T G kp fl n Try.f44 (E44 a0) = some (R44 a0 x) := by
 simp only [E44, R44]
 refine fnE (kp := kp44) (w := false) body44 (by simp) ?_
 unfold c44
 rw [Try.ntmps44]
 unfold X5 at hr
 refine Za rfl (by simp [-Int.natCast_tdiv_eq_ediv, Nat.add_assoc, ]; rfl) ?_
 refine Zf ?_
 by_cases c7 : a0.2 < 0
 ·skip
  refine Za rfl (by simp [-Int.natCast_tdiv_eq_ediv, Nat.add_assoc, c7]; rfl) ?_
  rw [if_pos] at hr
  rotate_left
  ·simp [-Int.natCast_tdiv_eq_ediv, Nat.add_assoc, c7]
  refine Ze (by simp [-Int.natCast_tdiv_eq_ediv, Nat.add_assoc, bV, c7]) ?_
  refine Zf ?_
  refine Za rfl (by simp [-Int.natCast_tdiv_eq_ediv, Nat.add_assoc, c7]; rfl) ?_
  refine Zl ?_
  obtain rfl := Option.some.inj hr
  simp [-Int.natCast_tdiv_eq_ediv, Nat.add_assoc, Zn, c7]
 ·skip
  by_cases c8 : 1600000 < a0.2
  ·skip
   refine Za rfl (by simp [-Int.natCast_tdiv_eq_ediv, Nat.add_assoc, c7, c8]; rfl) ?_
   rw [if_pos] at hr
   rotate_left
   ·simp [-Int.natCast_tdiv_eq_ediv, Nat.add_assoc, c7, c8]
   refine Ze (by simp [-Int.natCast_tdiv_eq_ediv, Nat.add_assoc, bV, c7, c8]) ?_
   refine Zf ?_
   refine Za rfl (by simp [-Int.natCast_tdiv_eq_ediv, Nat.add_assoc, c7, c8]; rfl) ?_
   refine Zl ?_
   obtain rfl := Option.some.inj hr
   simp [-Int.natCast_tdiv_eq_ediv, Nat.add_assoc, Zn, c7, c8]
  ·skip
   refine Za rfl (by simp [-Int.natCast_tdiv_eq_ediv, Nat.add_assoc, c7, c8]; rfl) ?_
   by_cases c9 : (a0.1.length : Int) = IntKind.i64.wrap ((IntKind.i64.wrap (a0.2 + 7)).tdiv 8)
   ·skip
    have c9N := c9
    try simp at c9N
    rw [if_neg] at hr
    rotate_left
    ·simp [-Int.natCast_tdiv_eq_ediv, Nat.add_assoc, c7, c8, eq_true c9, eq_true c9N]
    refine Zg (by simp [-Int.natCast_tdiv_eq_ediv, Nat.add_assoc, bV, c7, c8, eq_true c9, eq_true c9N]) ?_
    refine Zh ?_
    refine Zf ?_
    refine Za rfl (by simp [-Int.natCast_tdiv_eq_ediv, Nat.add_assoc, c7, c8, eq_true c9, eq_true c9N]; rfl) ?_
    refine Zk ?_
    refine ZU (kq := ⟨[1, 3], [1], []⟩) (H := fun (s : Int) => match s with | p4 => (⟨(und 1 ++ ([.ptr 1 0 0 0 2] ++ (und 1 ++ ([.one (.v (.int .i64 p4))] ++ (und 31)))) : List PV), ([(1, ⟨0, 2, [[.slice .no (Zi .u8 a0.1), .v (.int .i64 a0.2)]], false, false⟩)] : Boxes)⟩ : ASt)) (by kernel_rfl) hr (by simp [-Int.natCast_tdiv_eq_ediv, Nat.add_assoc, und, List.replicate, c7, c8, eq_true c9, eq_true c9N]) ?_
    rintro p4 x15r hr15
    simp only [Zbx] at hr15
    unfold b44_1
    simp only [und, List.replicate, List.cons_append, List.nil_append]
    refine Zf ?_
    refine Za rfl (by simp [-Int.natCast_tdiv_eq_ediv, Nat.add_assoc, c7, c8, eq_true c9, eq_true c9N]; rfl) ?_
    by_cases c16 : p4 < IntKind.i64.wrap (8 * (a0.1.length : Int))
    ·skip
     have c16N := c16
     try simp at c16N
     first | have c16M : (_ = _) = True := eq_true c16N | have c16M := c16N
     rw [if_pos] at hr15
     rotate_left
     ·simp [-Int.natCast_tdiv_eq_ediv, Nat.add_assoc, c7, c8, eq_true c9, eq_true c9N, c16, c16M]
     refine Ze (by simp [-Int.natCast_tdiv_eq_ediv, Nat.add_assoc, bV, c7, c8, eq_true c9, eq_true c9N, c16, c16M]) ?_
     refine Zh ?_
     refine Zk ?_
     obtain ⟨y17, hy17, hr15⟩ := bs hr15
     have ehy17 := ZiS hy17
     simp only [E54, R54, nf, nfs] at ehy17
     refine Za rfl (by simp [-Int.natCast_tdiv_eq_ediv, Nat.add_assoc, hO, hT54, ehy17, c7, c8, eq_true c9, eq_true c9N, c16, c16M]; rfl) ?_
     by_cases c18 : y17 = true
     ·skip
      rw [if_pos c18] at hr15
      refine Yo (by simp [-Int.natCast_tdiv_eq_ediv, Nat.add_assoc, bV, c7, c8, eq_true c9, eq_true c9N, c16, c16M, c18]) ?_
      refine Za rfl (by simp [-Int.natCast_tdiv_eq_ediv, Nat.add_assoc, c7, c8, eq_true c9, eq_true c9N, c16, c16M, c18]; rfl) ?_
      refine Zx ?_
      obtain rfl := Option.some.inj hr15
      simp only [pq, reduceCtorEq]
      rintro rfl
      simp [-Int.natCast_tdiv_eq_ediv, Nat.add_assoc, Zn, c7, c8, eq_true c9, eq_true c9N, c16, c16M, c18, c16N]
     ·skip
      rw [if_neg c18] at hr15
      refine YI (by simp [-Int.natCast_tdiv_eq_ediv, Nat.add_assoc, bV, c7, c8, eq_true c9, eq_true c9N, c16, c16M, c18]) ?_
      refine XA ?_
      simp only [pq, reduceCtorEq]
      refine ZA rfl (by simp [-Int.natCast_tdiv_eq_ediv, Nat.add_assoc, c7, c8, eq_true c9, eq_true c9N, c16, c16M, c18]; rfl) ?_
      obtain rfl := Option.some.inj hr15
      simp only [pq, reduceCtorEq]
      simp [-Int.natCast_tdiv_eq_ediv, Nat.add_assoc, und, List.replicate, Nat.add_assoc, c7, c8, eq_true c9, eq_true c9N, c16, c16M, c18]
    ·skip
     have c16N := c16
     try simp at c16N
     first | have c16M : (_ = _) = True := eq_true c16N | have c16M := c16N
     rw [if_neg] at hr15
     rotate_left
     ·simp [-Int.natCast_tdiv_eq_ediv, Nat.add_assoc, c7, c8, eq_true c9, eq_true c9N, c16, c16M]
     refine Zg (by simp [-Int.natCast_tdiv_eq_ediv, Nat.add_assoc, bV, c7, c8, eq_true c9, eq_true c9N, c16, c16M]) ?_
     refine Zo ?_
     obtain ⟨r19, q19, rfl⟩ := ms hr15
     simp only [pq, reduceCtorEq]
     rintro rfl
     try simp only [pq, reduceCtorEq]
     unfold Lref18_Valid_k1 at q19
     refine Za rfl (by simp [-Int.natCast_tdiv_eq_ediv, Nat.add_assoc, c7, c8, eq_true c9, eq_true c9N, c16, c16M]; rfl) ?_
     refine Zx ?_
     obtain rfl := Option.some.inj q19
     simp [-Int.natCast_tdiv_eq_ediv, Nat.add_assoc, Zn, c7, c8, eq_true c9, eq_true c9N, c16, c16M, c16N]
   ·skip
    have c9N := c9
    try simp at c9N
    first | have c9M : (_ = _) = True := eq_true c9N | have c9M := c9N
    rw [if_pos] at hr
    rotate_left
    ·simp [-Int.natCast_tdiv_eq_ediv, Nat.add_assoc, c7, c8, c9, c9M]
    refine Ze (by simp [-Int.natCast_tdiv_eq_ediv, Nat.add_assoc, bV, c7, c8, c9, c9M]) ?_
    refine Zf ?_
    refine Za rfl (by simp [-Int.natCast_tdiv_eq_ediv, Nat.add_assoc, c7, c8, c9, c9M]; rfl) ?_
    refine Zl ?_
    obtain rfl := Option.some.inj hr
    simp [-Int.natCast_tdiv_eq_ediv, Nat.add_assoc, Zn, c7, c8, c9, c9M, c9N]
def kp57 : Keep := fun i => ⟨[], [], []⟩
theorem w57 {T : Tab} (a0 : (List Int)) (a1 : (List Int)) (x : (List Int)) (hr : Zaw a0 a1 = some x) : ∃ kp fl n, ZI tt T G kp fl n Try.f57 (E57 (a0, a1)) = some (R57 (a0, a1) x) := by
 simp only [E57, R57]
 refine fnE (kp := kp57) (w := true) body57 (by simp) ?_
 unfold c57
 rw [Try.ntmps57]
 unfold Zaw at hr
 refine Za rfl (by simp []; rfl) ?_
 obtain ⟨_, u4, hr⟩ := bs hr
 obtain ⟨u4_0, u4_1⟩ := Zp u4
 have mf5 : 0 ≤ (IntKind.i64.wrap ((a0.length : Int) + (a1.length : Int))).toNat := by omega
 have mf6 : (IntKind.i64.wrap ((a0.length : Int) + (a1.length : Int))).toNat ≤ 140737488355328 := by omega
 have mf7 : (IntKind.i64.wrap ((a0.length : Int) + (a1.length : Int))).toNat ≤ 9223372036854775807 := by omega
 have mf8 : 0 ≤ IntKind.i64.wrap ((a0.length : Int) + (a1.length : Int)) := by omega
 refine Za rfl (by simp [u4_0, u4_1, mf5, mf6, mf7, mf8]; rfl) ?_
 obtain ⟨_, u9, hr⟩ := bs hr
 have u9_0 := Zp u9
 have n1_u9_0 : a0.length ≤ 140737488355328 := by omega
 have n2_u9_0 : a0.length ≤ 9223372036854775807 := by omega
 obtain ⟨_, u10, hr⟩ := bs hr
 have u10_0 := Zp u10
 have n1_u10_0 : a0.length + a1.length ≤ 140737488355328 := by omega
 have n2_u10_0 : a0.length + a1.length ≤ 9223372036854775807 := by omega
 refine Za rfl (by simp [n1_u9_0, n2_u9_0, n1_u10_0, n2_u10_0]; rfl) ?_
 refine Zx ?_
 obtain rfl := Option.some.inj hr
 simp [Zn, n1_u9_0, n2_u9_0, n1_u10_0, n2_u10_0]
def kp45 : Keep := fun i => if i = 3 then ⟨[3, 6, 7, 8], [900003], [(3, none, 900003, 0), (3, none, 900003, 1)]⟩ else ⟨[], [], []⟩
theorem w45 {T : Tab} (hO : T.own = fun _ => []) (hT57 : T 57 = some G57) (a0 : (List (List Int))) (x : (List Int)) (hr : Zbh a0 = some x) : ∃ kp fl n, ZI tt T G kp fl n Try.f45 (E45 a0) = some (R45 a0 x) := by
 simp only [E45, R45]
 refine fnE (kp := kp45) (w := true) body45 (by simp) ?_
 unfold c45
 rw [Try.ntmps45]
 unfold Zbh at hr
 refine Za rfl (by simp []; rfl) ?_
 refine Za rfl (by simp []; rfl) ?_
 refine Zf ?_
 refine Za rfl (by simp []; rfl) ?_
 refine Zk ?_
 refine ZU (kq := ⟨[3, 6, 7, 8], [900003], [(3, none, 900003, 0), (3, none, 900003, 1)]⟩) (H := fun (s : Int × (List Int)) => match s with | (p7, p8) => (⟨(und 3 ++ ([.one (.ms 900003 0 0 (p8.length) 1)] ++ (und 2 ++ ([.one (.slice .no (List.map Ym a0)), .one (.v (.int .i64 (a0.length : Int))), .one (.v (.int .i64 p7))] ++ (und 8)))) : List PV), ([(900003, ⟨0, 1, Zi .u8 p8, false, true⟩)] : Boxes)⟩ : ASt)) (by kernel_rfl) hr (by simp [und, List.replicate, ]) ?_
 rintro ⟨p7, p8⟩ x18r hr18
 simp only [Zcu] at hr18
 unfold b45_1
 simp only [und, List.replicate, List.cons_append, List.nil_append]
 refine Za rfl (by simp []; rfl) ?_
 by_cases c19 : p7 < (a0.length : Int)
 ·skip
  have c19N := c19
  try simp at c19N
  first | have c19M : (_ = _) = True := eq_true c19N | have c19M := c19N
  rw [if_pos] at hr18
  rotate_left
  ·simp [c19, c19M]
  refine Ze (by simp [bV, c19, c19M]) ?_
  refine Zh ?_
  refine Zk ?_
  obtain ⟨x20, hx20, hr18⟩ := bs hr18
  obtain ⟨hx20a, hx20b⟩ := Y8 hx20
  have hx20c := Zq hx20b
  refine Za rfl (by simp [hx20a, hx20b, hx20c, c19, c19M]; rfl) ?_
  obtain ⟨y21, hy21, hr18⟩ := bs hr18
  have ehy21 := Zn9 hy21
  simp only [E57, R57, nf, nfs] at ehy21
  refine ZA rfl (by simp [hO, hT57, ehy21, c19, c19M]; rfl) ?_
  simp only [pq, reduceCtorEq]
  refine ZA rfl (by simp [c19, c19M]; rfl) ?_
  obtain rfl := Option.some.inj hr18
  simp only [pq, reduceCtorEq]
  simp [und, List.replicate, Nat.add_assoc, c19, c19M]
 ·skip
  have c19N := c19
  try simp at c19N
  first | have c19M : (_ = _) = True := eq_true c19N | have c19M := c19N
  rw [if_neg] at hr18
  rotate_left
  ·simp [c19, c19M]
  refine Zg (by simp [bV, c19, c19M]) ?_
  refine Zo ?_
  obtain ⟨r22, q22, rfl⟩ := ms hr18
  simp only [pq, reduceCtorEq]
  rintro rfl
  try simp only [pq, reduceCtorEq]
  unfold Zdx at q22
  refine Za rfl (by simp [c19, c19M]; rfl) ?_
  refine Zx ?_
  obtain rfl := Option.some.inj q22
  simp [Zn, c19, c19M, c19N]
def kp46_13 : Keep := fun i => if i = 1000003 then ⟨[1, 2, 4], [2, 4, 99000000], []⟩ else if i = 1000005 then ⟨[2, 4], [2, 4, 99000000], []⟩ else ⟨[], [], []⟩
theorem Zov {T : Tab} (a0 : Tapi_Bits) (a1 : Bool) (x : Tapi_Bits) (hr : ZaQ a0 a1 = some x) : ∃ kp fl n, ZI tt T G kp fl n Try.f46 (Zcm (a0, a1)) = some (ZdR (a0, a1) x) := by
 simp only [Zcm, ZdR]
 refine fnE (kp := kp46_13) (w := true) body46 (by simp) ?_
 unfold c46
 rw [Try.ntmps46]
 unfold ZaQ at hr
 refine Za rfl (by simp []; rfl) ?_
 refine Zf ?_
 refine Za rfl (by simp []; rfl) ?_
 refine Za2 hr (fun (s : (List Int)) => match s with | p2 => (⟨(und 1 ++ ([.one (.v (.bool a1)), .ptr 2 0 0 0 2] ++ (und 1 ++ ([.ptr 4 0 0 0 2] ++ (und 29)))) : List PV), ([(2, ⟨0, 2, [[.ms 99000000 0 0 (p2.length) 1, .v (.int .i64 a0.2)]], false, false⟩), (4, ⟨0, 2, [[.slice .nil [], .v (.int .i64 0)]], false, false⟩), (99000000, ⟨0, 1, Zi .u8 p2, false, true⟩)] : Boxes)⟩ : ASt)) (fun (s : (List Int)) => match s with | p2 => Zay a1 a0 p2) ?_ ?_
 ·skip
  rintro p2 hk13
  change Zay a1 a0 p2 = _ at hk13
  simp only [und, List.replicate, List.cons_append, List.nil_append]
  unfold Zay at hk13
  refine Zf ?_
  refine Y6 rfl (kq := ⟨[1, 2, 4], [2, 4, 99000000], []⟩) rfl (by simp [Ys, ]; rfl) (by simp []; rfl) ?_
  refine Za2 hk13 (fun (s : (List Int)) => match s with | p6 => (⟨(und 2 ++ ([.ptr 2 0 0 0 2] ++ (und 1 ++ ([.ptr 4 0 0 0 2] ++ (und 29)))) : List PV), ([(2, ⟨0, 2, [[.ms 99000000 0 0 (p6.length) 1, .v (.int .i64 a0.2)]], false, false⟩), (4, ⟨0, 2, [[.slice .nil [], .v (.int .i64 0)]], false, false⟩), (99000000, ⟨0, 1, Zi .u8 p6, false, true⟩)] : Boxes)⟩ : ASt)) (fun (s : (List Int)) => match s with | p6 => Za3 a0 p6) ?_ ?_
  ·skip
   rintro p6 hk18
   change Za3 a0 p6 = _ at hk18
   simp only [und, List.replicate, List.cons_append, List.nil_append]
   unfold Za3 at hk18
   refine Y6 rfl (kq := ⟨[2, 4], [2, 4, 99000000], []⟩) rfl (by simp [Ys, ]; rfl) (by simp []; rfl) ?_
   refine Za rfl (by simp []; rfl) ?_
   refine Zx ?_
   obtain rfl := Option.some.inj hk18
   simp [Zn, ]
  ·skip
   intro J18
   by_cases c19 : a1 = true
   ·skip
    rw [if_pos c19] at hk13
    refine Ze (by simp [bV, c19]) ?_
    obtain ⟨j20, hj20, hk13⟩ := bs hk13
    obtain ⟨j20a, j20b, j20c⟩ := Zm hj20
    obtain ⟨x21, hx21, hk13⟩ := bs hk13
    have ghx21 := Zq hx21
    obtain ⟨_, u22, hk13⟩ := bs hk13
    have u22_0 := Zp u22
    obtain ⟨j20a, j20b, j20c⟩ := Zm hj20
    refine Zt rfl (by simp [j20a, j20b, j20c, hx21, ghx21, u22_0, c19]; first | exact ⟨rfl, rfl⟩ | rfl) (by kernel_rfl) ?_
    exact ZK (key := 1000005) (kq := ⟨[2, 4], [2, 4, 99000000], []⟩) rfl rfl rfl (by simp [und, List.replicate, c19]) (J18 ((p2).set j20 (bits .or .u8 x21 (IntKind.u8.wrap (1 * (2 ^ (min (IntKind.i64.wrap (7 - ((a0.2).tmod 8))).toNat 8)))))) hk13)
   ·skip
    rw [if_neg c19] at hk13
    refine Zg (by simp [bV, c19]) ?_
    refine Zh ?_
    exact ZK (key := 1000005) (kq := ⟨[2, 4], [2, 4, 99000000], []⟩) rfl rfl rfl (by simp [und, List.replicate, c19]) (J18 p2 hk13)
 ·skip
  intro J13
  by_cases c23 : (a0.2).tmod 8 = 0
  ·skip
   rw [if_pos c23] at hr
   refine Ze (by simp [bV, eq_true c23]) ?_
   obtain ⟨_, u24, hr⟩ := bs hr
   have u24_0 := Zp u24
   have n1_u24_0 : a0.1.length + 1 ≤ 140737488355328 := by omega
   have n2_u24_0 : a0.1.length + 1 ≤ 9223372036854775807 := by omega
   refine Za rfl (by simp [n1_u24_0, n2_u24_0, eq_true c23]; rfl) ?_
   exact ZK (key := 1000003) (kq := ⟨[1, 2, 4], [2, 4, 99000000], []⟩) rfl rfl rfl (by simp [und, List.replicate, eq_true c23]) (J13 (a0.1 ++ [0]) hr)
  ·skip
   rw [if_neg c23] at hr
   refine Zg (by simp [bV, c23]) ?_
   refine Zh ?_
   exact ZK (key := 1000003) (kq := ⟨[1, 2, 4], [2, 4, 99000000], []⟩) rfl rfl rfl (by simp [und, List.replicate, c23]) (J13 a0.1 hr)
end Go.Proofs.Ytmjbklblgpnagaa
