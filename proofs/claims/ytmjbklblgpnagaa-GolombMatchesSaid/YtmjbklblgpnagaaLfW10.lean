import Derived.Test.YtmjbklblgpnagaaLfK
import Derived.Test.YtmjbklblgpnagaaCode
import Derived.Test.YtmjbklblgpnagaaBl
namespace Go.Proofs.Ytmjbklblgpnagaa
open Go.RowKit
open Go.Av
open Go.Lc
set_option maxRecDepth 100000
set_option linter.unusedSimpArgs false
set_option linter.unusedVariables false
set_option maxHeartbeats 4000000
variable {G : Glob}
def kp34_14 : Keep := fun i => if i = 4 then ⟨[0, 3], [99000000], []⟩ else if i = 9 then ⟨[0, 3, 4, 5], [99000000], []⟩ else if i = 1000010 then ⟨[0, 3, 4, 5], [99000000], []⟩ else ⟨[], [], []⟩
theorem Zor {T : Tab} (a0 : (List Int)) (x : (List Int)) (hr : Yw a0 = some x) : ∃ kp fl n, ZI tt T G kp fl n Try.f34 (Zdo a0) = some (ZeS a0 x) := by
 simp only [Zdo, ZeS]
 refine fnE (kp := kp34_14) (w := true) body34 (by simp) ?_
 unfold c34
 rw [Try.ntmps34]
 unfold Yw at hr
 refine Za rfl (by simp []; rfl) ?_
 refine Zf ?_
 refine Za rfl (by simp []; rfl) ?_
 by_cases c151 : (a0.length : Int) < 2
 ·skip
  have c151N := c151
  try simp at c151N
  first | have c151M : (_ = _) = True := eq_true c151N | have c151M := c151N
  rw [if_pos c151] at hr
  refine Ze (by simp [bV, c151, c151M]) ?_
  refine Zf ?_
  refine Za rfl (by simp [c151, c151M]; rfl) ?_
  refine Zl ?_
  obtain rfl := Option.some.inj hr
  simp [Zn, c151, c151M, c151N]
 ·skip
  have c151N := c151
  try simp at c151N
  first | have c151M : (_ = _) = True := eq_true c151N | have c151M := c151N
  rw [if_neg c151] at hr
  refine Zg (by simp [bV, c151, c151M]) ?_
  refine Zh ?_
  refine Zf ?_
  refine Za rfl (by simp [c151, c151M]; rfl) ?_
  refine Zk ?_
  refine ZU (kq := ⟨[0, 3], [99000000], []⟩) (H := fun (s : Int) => match s with | p72 => (⟨([.one (.ms 99000000 0 0 (a0.length) 1)] ++ (und 2 ++ ([.one (.v (.int .i64 p72))] ++ (und 57))) : List PV), ([(99000000, ⟨0, 1, Zi .u64 a0, false, true⟩)] : Boxes)⟩ : ASt)) (by kernel_rfl) hr (by simp [und, List.replicate, c151, c151M]) ?_
  rintro p72 x194r hr194
  simp only [YS] at hr194
  unfold b34_1
  simp only [und, List.replicate, List.cons_append, List.nil_append]
  refine Zf ?_
  refine Za rfl (by simp [c151, c151M]; rfl) ?_
  by_cases c195 : p72 < (a0.length : Int)
  ·skip
   have c195N := c195
   try simp at c195N
   first | have c195M : (_ = _) = True := eq_true c195N | have c195M := c195N
   rw [if_pos] at hr194
   rotate_left
   ·simp [c151, c151M, c195, c195M]
   refine Ze (by simp [bV, c151, c151M, c195, c195M]) ?_
   refine Zh ?_
   refine Zk ?_
   obtain ⟨j196, hj196, hr194⟩ := bs hr194
   obtain ⟨j196a, j196b, j196c⟩ := Zm hj196
   obtain ⟨x197, hx197, hr194⟩ := bs hr194
   have ghx197 := Zq hx197
   obtain ⟨j198, hj198, hr194⟩ := bs hr194
   obtain ⟨j198a, j198b, j198c⟩ := Zm hj198
   obtain ⟨x199, hx199, hr194⟩ := bs hr194
   have ghx199 := Zq hx199
   refine Zt rfl (by simp [j196a, j196b, j196c, hx197, ghx197, j198a, j198b, j198c, hx199, ghx199, c151, c151M, c195, c195M]; first | exact ⟨rfl, rfl⟩ | rfl) (by kernel_rfl) ?_
   by_cases c200 : x197 = x199
   ·skip
    rw [if_pos c200] at hr194
    refine Yo (by simp [bV, c151, c151M, c195, c195M, eq_true c200]) ?_
    obtain ⟨_, u201, hr194⟩ := bs hr194
    obtain ⟨u201_0, u201_1⟩ := Zp u201
    have sf202 : (p72).toNat ≤ a0.length := by omega
    refine Za rfl (by simp [u201_0, u201_1, sf202, c151, c151M, c195, c195M, eq_true c200]; rfl) ?_
    refine Zf ?_
    refine Za rfl (by simp [c151, c151M, c195, c195M, eq_true c200]; rfl) ?_
    refine Zk ?_
    refine ZU (kq := ⟨[0, 3, 4, 5], [99000000], []⟩) (H := fun (s : Int × Int × (List Int)) => match s with | (p131, p132, p133) => (⟨([.one (.ms 99000000 0 0 (p133.length) 1)] ++ (und 2 ++ ([.one (.v (.int .i64 p131)), .one (.ms 99000000 0 ((p72).toNat) ((a0.length - (p72).toNat)) 1), .one (.v (.int .i64 p132))] ++ (und 55))) : List PV), ([(99000000, ⟨0, 1, Zi .u64 p133, false, true⟩)] : Boxes)⟩ : ASt)) (by kernel_rfl) hr194 (by simp [und, List.replicate, c151, c151M, c195, c195M, eq_true c200]) ?_
    rintro ⟨p131, p132, p133⟩ x215r hr215
    simp only [YC] at hr215
    unfold b34_2
    simp only [und, List.replicate, List.cons_append, List.nil_append]
    refine Zf ?_
    refine Za rfl (by simp [c151, c151M, c195, c195M, eq_true c200]; rfl) ?_
    by_cases c216 : p132 < (((a0.length - (p72).toNat) : Nat) : Int)
    ·skip
     have c216N := c216
     try simp at c216N
     first | have c216M : (_ = _) = True := eq_true c216N | have c216M := c216N
     rw [if_pos] at hr215
     rotate_left
     ·simp [c151, c151M, c195, c195M, eq_true c200, c216, c216M]
     refine Ze (by simp [bV, c151, c151M, c195, c195M, eq_true c200, c216, c216M]) ?_
     refine Zh ?_
     refine Zk ?_
     obtain ⟨j217, hj217, hr215⟩ := bs hr215
     obtain ⟨j217a, j217b, j217c⟩ := Zm hj217
     obtain ⟨x218, hx218, hr215⟩ := bs hr215
     have ghx218 := Zq hx218
     obtain ⟨j219, hj219, hr215⟩ := bs hr215
     obtain ⟨j219a, j219b, j219c⟩ := Zm hj219
     obtain ⟨x220, hx220, hr215⟩ := bs hr215
     have ghx220 := Zq hx220
     refine Zt rfl (by simp [j217a, j217b, j217c, hx218, ghx218, j219a, j219b, j219c, hx220, ghx220, c151, c151M, c195, c195M, eq_true c200, c216, c216M]; first | exact ⟨rfl, rfl⟩ | rfl) (by kernel_rfl) ?_
     refine ZbR hr215 (.normal) (fun (s : Int × (List Int)) => match s with | (p148, p149) => (⟨([.one (.ms 99000000 0 0 (p149.length) 1)] ++ (und 2 ++ ([.one (.v (.int .i64 p148)), .one (.ms 99000000 0 ((p72).toNat) ((a0.length - (p72).toNat)) 1), .one (.v (.int .i64 p132))] ++ (und 55))) : List PV), ([(99000000, ⟨0, 1, Zi .u64 p149, false, true⟩)] : Boxes)⟩ : ASt)) (fun (s : Int × (List Int)) => match s with | (p148, p149) => Z5 p132 p148 p149) ?_ ?_
     ·skip
      rintro ⟨p148, p149⟩ hk223
      change Z5 p132 p148 p149 = _ at hk223
      simp only [pq, reduceCtorEq]
      simp only [und, List.replicate, List.cons_append, List.nil_append]
      unfold Z5 at hk223
      refine ZbH rfl (kq := ⟨[0, 3, 4, 5], [99000000], []⟩) rfl (by simp [Ys, c151, c151M, c195, c195M, eq_true c200, c216, c216M]; rfl) (by simp [c151, c151M, c195, c195M, eq_true c200, c216, c216M]; rfl) ?_
      obtain rfl := Option.some.inj hk223
      simp only [pq, reduceCtorEq]
      simp [und, List.replicate, Nat.add_assoc, c151, c151M, c195, c195M, eq_true c200, c216, c216M]
     ·skip
      intro J223
      simp only [pq, reduceCtorEq] at J223
      by_cases c224 : x218 = x220
      ·skip
       rw [if_neg (not_not_intro c224)] at hr215
       refine YI (by simp [bV, c151, c151M, c195, c195M, eq_true c200, c216, c216M, eq_true c224]) ?_
       refine XA ?_
       simp only [pq, reduceCtorEq]
       exact ZK (key := 1000010) (kq := ⟨[0, 3, 4, 5], [99000000], []⟩) rfl rfl rfl (by simp [und, List.replicate, c151, c151M, c195, c195M, eq_true c200, c216, c216M, eq_true c224]) (J223 (p131, p133) hr215)
      ·skip
       rw [if_pos c224] at hr215
       refine Yo (by simp [bV, c151, c151M, c195, c195M, eq_true c200, c216, c216M, c224]) ?_
       obtain ⟨j217a, j217b, j217c⟩ := Zm hj217
       have ghx218 := Zq hx218
       obtain ⟨j225, hj225, hr215⟩ := bs hr215
       obtain ⟨j225a, j225b, j225c⟩ := Zm hj225
       refine Za rfl (by simp [j217a, j217b, j217c, hx218, ghx218, j225a, j225b, j225c, c151, c151M, c195, c195M, eq_true c200, c216, c216M, c224]; rfl) ?_
       refine ZA rfl (by simp [c151, c151M, c195, c195M, eq_true c200, c216, c216M, c224]; rfl) ?_
       simp only [pq, reduceCtorEq]
       exact ZK (key := 1000010) (kq := ⟨[0, 3, 4, 5], [99000000], []⟩) rfl rfl rfl (by simp [und, List.replicate, c151, c151M, c195, c195M, eq_true c200, c216, c216M, c224]) (J223 (IntKind.i64.wrap (p131 + 1), (p133).set j225 x218) hr215)
    ·skip
     have c216N := c216
     try simp at c216N
     first | have c216M : (_ = _) = True := eq_true c216N | have c216M := c216N
     rw [if_neg] at hr215
     rotate_left
     ·simp [c151, c151M, c195, c195M, eq_true c200, c216, c216M]
     refine Zg (by simp [bV, c151, c151M, c195, c195M, eq_true c200, c216, c216M]) ?_
     refine Zo ?_
     obtain ⟨r226, q226, rfl⟩ := ms hr215
     simp only [pq, reduceCtorEq]
     rintro rfl
     try simp only [pq, reduceCtorEq]
     unfold XO at q226
     obtain ⟨_, u227, q226⟩ := bs q226
     obtain ⟨u227_0, u227_1⟩ := Zp u227
     have sf228 : (p131).toNat ≤ p133.length := by omega
     have cl229 := Zmb (k := .u64) (l := p133) (i := (p131).toNat) (n := (p133.length - (p131).toNat)) (by first | omega | (simp only [List.length_set]; omega))
     refine Za rfl (by simp [u227_0, u227_1, sf228, cl229, c151, c151M, c195, c195M, eq_true c200, c216, c216M]; rfl) ?_
     obtain ⟨_, u230, q226⟩ := bs q226
     obtain ⟨u230_0, u230_1⟩ := Zp u230
     have lu230_0 : p131 ≤ ((p133.length : Nat) : Int) := by
      have h := u230_0
      try simp at h
      omega
     try simp only [Int.natCast_add] at lu230_0
     have sf231 : (p131).toNat ≤ (clr (p133) ((p131).toNat) (p133.length - (p131).toNat) 0).length := by omega
     have sf232 : 0 ≤ p131 := by omega
     have sf233 : (p131).toNat ≤ p133.length := by omega
     have sf234 : 0 ≤ p131 := by omega
     refine Za rfl (by simp [u230_0, u230_1, lu230_0, sf231, sf232, sf233, sf234, c151, c151M, c195, c195M, eq_true c200, c216, c216M]; rfl) ?_
     refine Zx ?_
     obtain rfl := Option.some.inj q226
     simp only [pq, reduceCtorEq]
     rintro rfl
     simp [Zn, u230_0, u230_1, lu230_0, sf231, sf232, sf233, sf234, c151, c151M, c195, c195M, eq_true c200, c216, c216M, c151N, c195N, c216N]
   ·skip
    rw [if_neg c200] at hr194
    refine YI (by simp [bV, c151, c151M, c195, c195M, c200]) ?_
    refine XA ?_
    simp only [pq, reduceCtorEq]
    refine ZA rfl (by simp [c151, c151M, c195, c195M, c200]; rfl) ?_
    obtain rfl := Option.some.inj hr194
    simp only [pq, reduceCtorEq]
    simp [und, List.replicate, Nat.add_assoc, c151, c151M, c195, c195M, c200]
  ·skip
   have c195N := c195
   try simp at c195N
   first | have c195M : (_ = _) = True := eq_true c195N | have c195M := c195N
   rw [if_neg] at hr194
   rotate_left
   ·simp [c151, c151M, c195, c195M]
   refine Zg (by simp [bV, c151, c151M, c195, c195M]) ?_
   refine Zo ?_
   obtain ⟨r235, q235, rfl⟩ := ms hr194
   simp only [pq, reduceCtorEq]
   rintro rfl
   try simp only [pq, reduceCtorEq]
   unfold XN at q235
   refine Za rfl (by simp [c151, c151M, c195, c195M]; rfl) ?_
   refine Zx ?_
   obtain rfl := Option.some.inj q235
   simp [Zn, c151, c151M, c195, c195M, c151N, c195N]
def kp19 : Keep := fun i => ⟨[], [], []⟩
theorem w19 {T : Tab} (hO : T.own = fun d => if d = 32 then [[1]] else []) (hT30 : T 30 = some G30) (hT34 : T 34 = some G34_14) (a0 : (Arr 2)) (a1 : (List (List Int))) (a2 : Int) (a3 : Int) (x : (List Int) × Int) (hr : Zah a0 a1 a2 a3 = some x) : ∃ kp fl n, ZI tt T G kp fl n Try.f19 (E19 (a0, a1, a2, a3)) = some (R19 (a0, a1, a2, a3) x) := by
 simp only [E19, R19]
 refine fnE (kp := kp19) (w := false) body19 (by simp) ?_
 unfold c19
 rw [Try.ntmps19]
 unfold Zah at hr
 refine Za rfl (by simp []; rfl) ?_
 refine Zf ?_
 refine Za rfl (by simp []; rfl) ?_
 by_cases c3 : 4096 < (a1.length : Int)
 ·skip
  have c3N := c3
  try simp at c3N
  first | have c3M : (_ = _) = True := eq_true c3N | have c3M := c3N
  rw [if_pos c3] at hr
  refine Ze (by simp [bV, c3, c3M]) ?_
  refine Zf ?_
  refine Za rfl (by simp [c3, c3M]; rfl) ?_
  refine Zl ?_
  obtain rfl := Option.some.inj hr
  simp [Zn, c3, c3M, c3N]
 ·skip
  have c3N := c3
  try simp at c3N
  first | have c3M : (_ = _) = True := eq_true c3N | have c3M := c3N
  rw [if_neg c3] at hr
  refine Zg (by simp [bV, c3, c3M]) ?_
  refine Zh ?_
  refine Zf ?_
  by_cases c4 : a2 < 0
  ·skip
   refine Za rfl (by simp [c3, c3M, c4]; rfl) ?_
   rw [if_pos] at hr
   rotate_left
   ·simp [c3, c3M, c4]
   refine Ze (by simp [bV, c3, c3M, c4]) ?_
   refine Zf ?_
   refine Za rfl (by simp [c3, c3M, c4]; rfl) ?_
   refine Zl ?_
   obtain rfl := Option.some.inj hr
   simp [Zn, c3, c3M, c4, c3N]
  ·skip
   by_cases c5 : 4096 < a2
   ·skip
    refine Za rfl (by simp [c3, c3M, c4, c5]; rfl) ?_
    rw [if_pos] at hr
    rotate_left
    ·simp [c3, c3M, c4, c5]
    refine Ze (by simp [bV, c3, c3M, c4, c5]) ?_
    refine Zf ?_
    refine Za rfl (by simp [c3, c3M, c4, c5]; rfl) ?_
    refine Zl ?_
    obtain rfl := Option.some.inj hr
    simp [Zn, c3, c3M, c4, c5, c3N]
   ·skip
    by_cases c6 : a3 < 1
    ·skip
     refine Za rfl (by simp [c3, c3M, c4, c5, c6]; rfl) ?_
     rw [if_pos] at hr
     rotate_left
     ·simp [c3, c3M, c4, c5, c6]
     refine Ze (by simp [bV, c3, c3M, c4, c5, c6]) ?_
     refine Zf ?_
     refine Za rfl (by simp [c3, c3M, c4, c5, c6]; rfl) ?_
     refine Zl ?_
     obtain rfl := Option.some.inj hr
     simp [Zn, c3, c3M, c4, c5, c6, c3N]
    ·skip
     refine Za rfl (by simp [c3, c3M, c4, c5, c6]; rfl) ?_
     by_cases c7 : 1099511627776 < a3
     ·skip
      rw [if_pos] at hr
      rotate_left
      ·simp [c3, c3M, c4, c5, c6, c7]
      refine Ze (by simp [bV, c3, c3M, c4, c5, c6, c7]) ?_
      refine Zf ?_
      refine Za rfl (by simp [c3, c3M, c4, c5, c6, c7]; rfl) ?_
      refine Zl ?_
      obtain rfl := Option.some.inj hr
      simp [Zn, c3, c3M, c4, c5, c6, c7, c3N]
     ·skip
      rw [if_neg] at hr
      rotate_left
      ·simp [c3, c3M, c4, c5, c6, c7]
      refine Zg (by simp [bV, c3, c3M, c4, c5, c6, c7]) ?_
      refine Zh ?_
      obtain ⟨y8, hy8, hr⟩ := bs hr
      have ehy8 := Zlv hy8
      simp only [E30, R30, nf, nfs] at ehy8
      obtain ⟨y9, hy9, hr⟩ := bs hr
      have ehy9 := ZlB hy9
      simp only [Zdo, ZeS, nf, nfs] at ehy9
      refine Za rfl (by simp [hO, hT30, ehy8, hT34, ehy9, c3, c3M, c4, c5, c6, c7]; rfl) ?_
      refine Zx ?_
      obtain rfl := Option.some.inj hr
      simp [Zn, hO, hT30, ehy8, hT34, ehy9, c3, c3M, c4, c5, c6, c7, c3N]
def kp52 : Keep := fun i => ⟨[], [], []⟩
theorem w52 {T : Tab} (a0 : Tapi_Bits) (a1 : Int) (x : Bool) (hr : ZbA a0 a1 = some x) : ∃ kp fl n, ZI tt T G kp fl n Try.f52 (E52 (a0, a1)) = some (R52 (a0, a1) x) := by
 simp only [E52, R52]
 refine fnE (kp := kp52) (w := false) body52 (by simp) ?_
 unfold c52
 rw [Try.ntmps52]
 unfold ZbA at hr
 refine Za rfl (by simp []; rfl) ?_
 obtain ⟨x3, hx3, hr⟩ := bs hr
 obtain ⟨hx3a, hx3b⟩ := Y8 hx3
 have hx3c := Zq hx3b
 obtain ⟨_, u4, hr⟩ := bs hr
 have u4_0 := Zp u4
 refine Zt rfl (by simp [hx3a, hx3b, hx3c, u4_0]; first | exact ⟨rfl, rfl⟩ | rfl) (by kernel_rfl) ?_
 refine Zx ?_
 obtain rfl := Option.some.inj hr
 simp [Zn, hx3a, hx3b, hx3c, u4_0]
def kp53 : Keep := fun i => if i = 3 then ⟨[1, 3, 7, 9, 10], [3], []⟩ else if i = 1000008 then ⟨[1, 3, 7, 9, 10], [3], []⟩ else ⟨[], [], []⟩
theorem w53 {T : Tab} (hO : T.own = fun _ => []) (hT52 : T 52 = some G52) (a0 : Tapi_Bits) (a1 : Int) (a2 : Int) (x : Int) (hr : Zas a0 a1 a2 = some x) : ∃ kp fl n, ZI tt T G kp fl n Try.f53 (E53 (a0, a1, a2)) = some (R53 (a0, a1, a2) x) := by
 simp only [E53, R53]
 refine fnE (kp := kp53) (w := false) body53 (by simp) ?_
 unfold c53
 rw [Try.ntmps53]
 unfold Zas at hr
 refine Za rfl (by simp []; rfl) ?_
 refine Za rfl (by simp []; rfl) ?_
 refine Zf ?_
 refine Za rfl (by simp []; rfl) ?_
 refine Zk ?_
 refine ZU (kq := ⟨[1, 3, 7, 9, 10], [3], []⟩) (H := fun (s : Int × Int) => match s with | (p7, p8) => (⟨(und 1 ++ ([.one (.v (.int .i64 a1))] ++ (und 1 ++ ([.ptr 3 0 0 0 2] ++ (und 3 ++ ([.one (.v (.int .u64 p7))] ++ (und 1 ++ ([.one (.v (.int .i64 a2)), .one (.v (.int .i64 p8))] ++ (und 13)))))))) : List PV), ([(3, ⟨0, 2, [[.slice .no (Zi .u8 a0.1), .v (.int .i64 a0.2)]], false, false⟩)] : Boxes)⟩ : ASt)) (by kernel_rfl) hr (by simp [und, List.replicate, ]) ?_
 rintro ⟨p7, p8⟩ x20r hr20
 simp only [ZbB] at hr20
 unfold b53_1
 simp only [und, List.replicate, List.cons_append, List.nil_append]
 refine Za rfl (by simp []; rfl) ?_
 by_cases c21 : p8 < a2
 ·skip
  rw [if_pos] at hr20
  rotate_left
  ·simp [c21]
  refine Ze (by simp [bV, c21]) ?_
  refine Zh ?_
  refine Zk ?_
  refine Za rfl (by simp [c21]; rfl) ?_
  refine Za rfl (by simp [c21]; rfl) ?_
  obtain ⟨y22, hy22, hr20⟩ := bs hr20
  have ehy22 := ZlC hy22
  simp only [E52, R52, nf, nfs] at ehy22
  refine Za rfl (by simp [hO, hT52, ehy22, c21]; rfl) ?_
  refine ZbR hr20 (.normal) (fun (s : Int) => match s with | p12 => (⟨(und 1 ++ ([.one (.v (.int .i64 a1))] ++ (und 1 ++ ([.ptr 3 0 0 0 2] ++ (und 3 ++ ([.one (.v (.int .u64 p12))] ++ (und 1 ++ ([.one (.v (.int .i64 a2)), .one (.v (.int .i64 p8))] ++ (und 13)))))))) : List PV), ([(3, ⟨0, 2, [[.slice .no (Zi .u8 a0.1), .v (.int .i64 a0.2)]], false, false⟩)] : Boxes)⟩ : ASt)) (fun (s : Int) => match s with | p12 => ZaX p8 p12) ?_ ?_
  ·skip
   rintro p12 hk24
   change ZaX p8 p12 = _ at hk24
   simp only [pq, reduceCtorEq]
   simp only [und, List.replicate, List.cons_append, List.nil_append]
   unfold ZaX at hk24
   refine ZbH rfl (kq := ⟨[1, 3, 7, 9, 10], [3], []⟩) rfl (by simp [Ys, c21]; rfl) (by simp [c21]; rfl) ?_
   obtain rfl := Option.some.inj hk24
   simp only [pq, reduceCtorEq]
   simp [und, List.replicate, Nat.add_assoc, c21]
  ·skip
   intro J24
   simp only [pq, reduceCtorEq] at J24
   by_cases c25 : y22 = true
   ·skip
    rw [if_pos c25] at hr20
    refine Yo (by simp [bV, c21, c25]) ?_
    refine ZA rfl (by simp [c21, c25]; rfl) ?_
    simp only [pq, reduceCtorEq]
    exact ZK (key := 1000008) (kq := ⟨[1, 3, 7, 9, 10], [3], []⟩) rfl rfl rfl (by simp [und, List.replicate, c21, c25]) (J24 (bits .or .u64 (IntKind.u64.wrap (p7 * 2)) 1) hr20)
   ·skip
    rw [if_neg c25] at hr20
    refine YI (by simp [bV, c21, c25]) ?_
    refine XA ?_
    simp only [pq, reduceCtorEq]
    exact ZK (key := 1000008) (kq := ⟨[1, 3, 7, 9, 10], [3], []⟩) rfl rfl rfl (by simp [und, List.replicate, c21, c25]) (J24 (IntKind.u64.wrap (p7 * 2)) hr20)
 ·skip
  rw [if_neg] at hr20
  rotate_left
  ·simp [c21]
  refine Zg (by simp [bV, c21]) ?_
  refine Zo ?_
  obtain ⟨r26, q26, rfl⟩ := ms hr20
  simp only [pq, reduceCtorEq]
  rintro rfl
  try simp only [pq, reduceCtorEq]
  unfold Zdg at q26
  refine Za rfl (by simp [c21]; rfl) ?_
  refine Zx ?_
  obtain rfl := Option.some.inj q26
  simp [Zn, c21]
def kp35 : Keep := fun i => if i = 1000010 then ⟨[1, 2, 3, 9], [3], []⟩ else if i = 6 then ⟨[1, 2, 3, 9], [3], []⟩ else ⟨[], [], []⟩
theorem w35 {T : Tab} (hO : T.own = fun _ => []) (hT40 : T 40 = some G40) (hT52 : T 52 = some G52) (hT53 : T 53 = some G53) (a0 : Tapi_Bits) (a1 : Int) (a2 : Int) (x : Int × Int × Int) (hr : Zai a0 a1 a2 = some x) : ∃ kp fl n, ZI tt T G kp fl n Try.f35 (E35 (a0, a1, a2)) = some (R35 (a0, a1, a2) x) := by
 simp only [E35, R35]
 refine fnE (kp := kp35) (w := false) body35 (by simp) ?_
 unfold c35
 rw [Try.ntmps35]
 unfold Zai at hr
 refine Za rfl (by simp []; rfl) ?_
 refine Zf ?_
 obtain ⟨y14, hy14, hr⟩ := bs hr
 have ehy14 := ZiO hy14
 simp only [E40, R40, nf, nfs] at ehy14
 refine Za rfl (by simp [hO, hT40, ehy14]; rfl) ?_
 by_cases c15 : y14 = true
 ·skip
  rw [if_neg (not_not_intro c15)] at hr
  refine Zg (by simp [bV, c15]) ?_
  refine Zh ?_
  refine Zf ?_
  by_cases c16 : a2 < 0
  ·skip
   refine Za rfl (by simp [c15, c16]; rfl) ?_
   rw [if_pos] at hr
   rotate_left
   ·simp [c15, c16]
   refine Ze (by simp [bV, c15, c16]) ?_
   refine Zf ?_
   refine Za rfl (by simp [c15, c16]; rfl) ?_
   refine Zl ?_
   obtain rfl := Option.some.inj hr
   simp [Zn, c15, c16]
  ·skip
   by_cases c17 : 32 < a2
   ·skip
    refine Za rfl (by simp [c15, c16, c17]; rfl) ?_
    rw [if_pos] at hr
    rotate_left
    ·simp [c15, c16, c17]
    refine Ze (by simp [bV, c15, c16, c17]) ?_
    refine Zf ?_
    refine Za rfl (by simp [c15, c16, c17]; rfl) ?_
    refine Zl ?_
    obtain rfl := Option.some.inj hr
    simp [Zn, c15, c16, c17]
   ·skip
    by_cases c18 : a1 < 0
    ·skip
     refine Za rfl (by simp [c15, c16, c17, c18]; rfl) ?_
     rw [if_pos] at hr
     rotate_left
     ·simp [c15, c16, c17, c18]
     refine Ze (by simp [bV, c15, c16, c17, c18]) ?_
     refine Zf ?_
     refine Za rfl (by simp [c15, c16, c17, c18]; rfl) ?_
     refine Zl ?_
     obtain rfl := Option.some.inj hr
     simp [Zn, c15, c16, c17, c18]
    ·skip
     refine Za rfl (by simp [c15, c16, c17, c18]; rfl) ?_
     by_cases c19 : a0.2 < a1
     ·skip
      rw [if_pos] at hr
      rotate_left
      ·simp [c15, c16, c17, c18, c19]
      refine Ze (by simp [bV, c15, c16, c17, c18, c19]) ?_
      refine Zf ?_
      refine Za rfl (by simp [c15, c16, c17, c18, c19]; rfl) ?_
      refine Zl ?_
      obtain rfl := Option.some.inj hr
      simp [Zn, c15, c16, c17, c18, c19]
     ·skip
      rw [if_neg] at hr
      rotate_left
      ·simp [c15, c16, c17, c18, c19]
      refine Zg (by simp [bV, c15, c16, c17, c18, c19]) ?_
      refine Zh ?_
      refine Za rfl (by simp [c15, c16, c17, c18, c19]; rfl) ?_
      refine Zk ?_
      refine ZbR hr (.exit 0) (fun (s : Int) => match s with | p7 => (⟨(und 1 ++ ([.one (.v (.int .i64 a1)), .one (.v (.int .i64 a2)), .ptr 3 0 0 0 2] ++ (und 5 ++ ([.one (.v (.int .i64 p7))] ++ (und 60)))) : List PV), ([(3, ⟨0, 2, [[.slice .no (Zi .u8 a0.1), .v (.int .i64 a0.2)]], false, false⟩)] : Boxes)⟩ : ASt)) (fun (s : Int) => match s with | p7 => Zau a0 p7 a2 a1) ?_ ?_
      ·skip
       rintro p7 hk29
       change Zau a0 p7 a2 a1 = _ at hk29
       simp only [pq, reduceCtorEq]
       simp only [und, List.replicate, List.cons_append, List.nil_append]
       unfold Zau at hk29
       refine Zf ?_
       refine Y6 rfl (kq := ⟨[1, 2, 3, 9], [3], []⟩) rfl (by simp [Ys, c15, c16, c17, c18, c19]; rfl) (by simp [c15, c16, c17, c18, c19]; rfl) ?_
       by_cases c30 : IntKind.i64.wrap (a0.2 - p7) < IntKind.i64.wrap (1 + a2)
       ·skip
        rw [if_pos c30] at hk29
        refine Ze (by simp [bV, c15, c16, c17, c18, c19, c30]) ?_
        refine Zf ?_
        refine Za rfl (by simp [c15, c16, c17, c18, c19, c30]; rfl) ?_
        refine Zl ?_
        obtain rfl := Option.some.inj hk29
        simp [Zn, c15, c16, c17, c18, c19, c30]
       ·skip
        rw [if_neg c30] at hk29
        refine Zg (by simp [bV, c15, c16, c17, c18, c19, c30]) ?_
        refine Zh ?_
        obtain ⟨_, u31, hk29⟩ := bs hk29
        have u31_0 := Zp u31
        obtain ⟨y32, hy32, hk29⟩ := bs hk29
        have ehy32 := ZlD hy32
        simp only [E53, R53, nf, nfs] at ehy32
        refine Zt rfl (by simp [u31_0, hO, hT53, ehy32, c15, c16, c17, c18, c19, c30]; first | exact ⟨rfl, rfl⟩ | rfl) (by kernel_rfl) ?_
        refine Za rfl (by simp [c15, c16, c17, c18, c19, c30]; rfl) ?_
        refine Zx ?_
        obtain rfl := Option.some.inj hk29
        simp [Zn, c15, c16, c17, c18, c19, c30]
      ·skip
       intro J29
       simp only [pq, reduceCtorEq] at J29
       refine ZU (kq := ⟨[1, 2, 3, 9], [3], []⟩) (H := fun (s : Int) => match s with | p7 => (⟨(und 1 ++ ([.one (.v (.int .i64 a1)), .one (.v (.int .i64 a2)), .ptr 3 0 0 0 2] ++ (und 5 ++ ([.one (.v (.int .i64 p7))] ++ (und 60)))) : List PV), ([(3, ⟨0, 2, [[.slice .no (Zi .u8 a0.1), .v (.int .i64 a0.2)]], false, false⟩)] : Boxes)⟩ : ASt)) (by kernel_rfl) hr (by simp [und, List.replicate, c15, c16, c17, c18, c19]) ?_
       rintro p7 x33r hr33
       simp only [XY] at hr33
       unfold b35_1
       simp only [und, List.replicate, List.cons_append, List.nil_append]
       refine Zf ?_
       by_cases c34 : p7 < a0.2
       ·skip
        rw [if_pos] at hr33
        rotate_left
        ·simp [c15, c16, c17, c18, c19, c34]
        obtain ⟨z35, hz35, hr33⟩ := bs hr33
        obtain ⟨y36, hy36, hz35⟩ := bs hz35
        have ehy36 := ZlC hy36
        simp only [E52, R52, nf, nfs] at ehy36
        obtain rfl := Option.some.inj hz35
        refine Za rfl (by simp [hO, hT52, ehy36, c15, c16, c17, c18, c19, c34]; rfl) ?_
        by_cases c37 : y36 = true
        ·skip
         rw [if_pos] at hr33
         rotate_left
         ·simp [c15, c16, c17, c18, c19, c34, c37]
         refine Ze (by simp [bV, c15, c16, c17, c18, c19, c34, c37]) ?_
         refine Zh ?_
         refine YT ?_
         refine Za rfl (by simp [c15, c16, c17, c18, c19, c34, c37]; rfl) ?_
         refine Za rfl (by simp [c15, c16, c17, c18, c19, c34, c37]; rfl) ?_
         by_cases c38 : 65536 < IntKind.i64.wrap ((IntKind.i64.wrap (p7 + 1)) - a1)
         ·skip
          rw [if_pos] at hr33
          rotate_left
          ·simp [c15, c16, c17, c18, c19, c34, c37, c38]
          refine Yo (by simp [bV, c15, c16, c17, c18, c19, c34, c37, c38]) ?_
          refine Za rfl (by simp [c15, c16, c17, c18, c19, c34, c37, c38]; rfl) ?_
          refine Zx ?_
          obtain rfl := Option.some.inj hr33
          simp only [pq, reduceCtorEq]
          rintro rfl
          simp [Zn, c15, c16, c17, c18, c19, c34, c37, c38]
         ·skip
          rw [if_neg] at hr33
          rotate_left
          ·simp [c15, c16, c17, c18, c19, c34, c37, c38]
          refine YI (by simp [bV, c15, c16, c17, c18, c19, c34, c37, c38]) ?_
          refine XA ?_
          obtain rfl := Option.some.inj hr33
          simp only [pq, reduceCtorEq]
          simp [und, List.replicate, Nat.add_assoc, c15, c16, c17, c18, c19, c34, c37, c38]
        ·skip
         rw [if_neg] at hr33
         rotate_left
         ·simp [c15, c16, c17, c18, c19, c34, c37]
         refine Zg (by simp [bV, c15, c16, c17, c18, c19, c34, c37]) ?_
         refine Zo ?_
         obtain ⟨r39, q39, rfl⟩ := ms hr33
         simp only [pq, reduceCtorEq]
         rintro rfl
         try simp only [pq, reduceCtorEq]
         exact ZK (key := 1000010) (kq := ⟨[1, 2, 3, 9], [3], []⟩) rfl rfl rfl (by simp [und, List.replicate, c15, c16, c17, c18, c19, c34, c37]) (J29 p7 q39)
       ·skip
        rw [if_neg] at hr33
        rotate_left
        ·simp [c15, c16, c17, c18, c19, c34]
        obtain ⟨z40, hz40, hr33⟩ := bs hr33
        obtain rfl := Option.some.inj hz40
        refine Za rfl (by simp [c15, c16, c17, c18, c19, c34]; rfl) ?_
        rw [if_neg] at hr33
        rotate_left
        ·simp [c15, c16, c17, c18, c19, c34]
        refine Zg (by simp [bV, c15, c16, c17, c18, c19, c34]) ?_
        refine Zo ?_
        obtain ⟨r41, q41, rfl⟩ := ms hr33
        simp only [pq, reduceCtorEq]
        rintro rfl
        try simp only [pq, reduceCtorEq]
        exact ZK (key := 1000010) (kq := ⟨[1, 2, 3, 9], [3], []⟩) rfl rfl rfl (by simp [und, List.replicate, c15, c16, c17, c18, c19, c34]) (J29 p7 q41)
 ·skip
  rw [if_pos c15] at hr
  refine Ze (by simp [bV, c15]) ?_
  refine Zf ?_
  refine Za rfl (by simp [c15]; rfl) ?_
  refine Zl ?_
  obtain rfl := Option.some.inj hr
  simp [Zn, c15]
def kp36 : Keep := fun i => ⟨[], [], []⟩
theorem w36 {T : Tab} (hO : T.own = fun _ => []) (hT40 : T 40 = some G40) (hT53 : T 53 = some G53) (a0 : Tapi_Bits) (a1 : Int) (a2 : Int) (x : Int × Int × Int) (hr : ZbZ a0 a1 a2 = some x) : ∃ kp fl n, ZI tt T G kp fl n Try.f36 (E36 (a0, a1, a2)) = some (R36 (a0, a1, a2) x) := by
 simp only [E36, R36]
 refine fnE (kp := kp36) (w := false) body36 (by simp) ?_
 unfold c36
 rw [Try.ntmps36]
 unfold ZbZ at hr
 refine Za rfl (by simp []; rfl) ?_
 refine Zf ?_
 obtain ⟨y3, hy3, hr⟩ := bs hr
 have ehy3 := ZiO hy3
 simp only [E40, R40, nf, nfs] at ehy3
 refine Za rfl (by simp [hO, hT40, ehy3]; rfl) ?_
 by_cases c4 : y3 = true
 ·skip
  rw [if_neg (not_not_intro c4)] at hr
  refine Zg (by simp [bV, c4]) ?_
  refine Zh ?_
  refine Zf ?_
  by_cases c5 : a2 < 0
  ·skip
   refine Za rfl (by simp [c4, c5]; rfl) ?_
   rw [if_pos] at hr
   rotate_left
   ·simp [c4, c5]
   refine Ze (by simp [bV, c4, c5]) ?_
   refine Zf ?_
   refine Za rfl (by simp [c4, c5]; rfl) ?_
   refine Zl ?_
   obtain rfl := Option.some.inj hr
   simp [Zn, c4, c5]
  ·skip
   by_cases c6 : 64 < a2
   ·skip
    refine Za rfl (by simp [c4, c5, c6]; rfl) ?_
    rw [if_pos] at hr
    rotate_left
    ·simp [c4, c5, c6]
    refine Ze (by simp [bV, c4, c5, c6]) ?_
    refine Zf ?_
    refine Za rfl (by simp [c4, c5, c6]; rfl) ?_
    refine Zl ?_
    obtain rfl := Option.some.inj hr
    simp [Zn, c4, c5, c6]
   ·skip
    by_cases c7 : a1 < 0
    ·skip
     refine Za rfl (by simp [c4, c5, c6, c7]; rfl) ?_
     rw [if_pos] at hr
     rotate_left
     ·simp [c4, c5, c6, c7]
     refine Ze (by simp [bV, c4, c5, c6, c7]) ?_
     refine Zf ?_
     refine Za rfl (by simp [c4, c5, c6, c7]; rfl) ?_
     refine Zl ?_
     obtain rfl := Option.some.inj hr
     simp [Zn, c4, c5, c6, c7]
    ·skip
     refine Za rfl (by simp [c4, c5, c6, c7]; rfl) ?_
     by_cases c8 : a0.2 < a1
     ·skip
      rw [if_pos] at hr
      rotate_left
      ·simp [c4, c5, c6, c7, c8]
      refine Ze (by simp [bV, c4, c5, c6, c7, c8]) ?_
      refine Zf ?_
      refine Za rfl (by simp [c4, c5, c6, c7, c8]; rfl) ?_
      refine Zl ?_
      obtain rfl := Option.some.inj hr
      simp [Zn, c4, c5, c6, c7, c8]
     ·skip
      rw [if_neg] at hr
      rotate_left
      ·simp [c4, c5, c6, c7, c8]
      refine Zg (by simp [bV, c4, c5, c6, c7, c8]) ?_
      refine Zh ?_
      refine Zf ?_
      refine Za rfl (by simp [c4, c5, c6, c7, c8]; rfl) ?_
      by_cases c9 : IntKind.i64.wrap (a0.2 - a1) < a2
      ·skip
       rw [if_pos c9] at hr
       refine Ze (by simp [bV, c4, c5, c6, c7, c8, c9]) ?_
       refine Zf ?_
       refine Za rfl (by simp [c4, c5, c6, c7, c8, c9]; rfl) ?_
       refine Zl ?_
       obtain rfl := Option.some.inj hr
       simp [Zn, c4, c5, c6, c7, c8, c9]
      ·skip
       rw [if_neg c9] at hr
       refine Zg (by simp [bV, c4, c5, c6, c7, c8, c9]) ?_
       refine Zh ?_
       obtain ⟨y10, hy10, hr⟩ := bs hr
       have ehy10 := ZlD hy10
       simp only [E53, R53, nf, nfs] at ehy10
       refine Za rfl (by simp [hO, hT53, ehy10, c4, c5, c6, c7, c8, c9]; rfl) ?_
       refine Zx ?_
       obtain rfl := Option.some.inj hr
       simp [Zn, hO, hT53, ehy10, c4, c5, c6, c7, c8, c9]
 ·skip
  rw [if_pos c4] at hr
  refine Ze (by simp [bV, c4]) ?_
  refine Zf ?_
  refine Za rfl (by simp [c4]; rfl) ?_
  refine Zl ?_
  obtain rfl := Option.some.inj hr
  simp [Zn, c4]
end Go.Proofs.Ytmjbklblgpnagaa
