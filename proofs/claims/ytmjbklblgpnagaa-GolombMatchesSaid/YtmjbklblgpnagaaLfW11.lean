import Derived.Test.YtmjbklblgpnagaaLfK
import Derived.Test.YtmjbklblgpnagaaCode
import Derived.Test.YtmjbklblgpnagaaBl
namespace Go.Proofs.Ytmjbklblgpnagaa
open Go.RowKit
open Go.Av
open Go.Lc
set_option maxRecDepth 100000
set_option linter.unusedSimpArgs false
set_option linter.unusedVariables false
set_option maxHeartbeats 4000000
variable {G : Glob}
def kp22 : Keep := fun i => if i = 9 then ⟨[1, 6, 7, 8, 9, 48, 49], [6, 46], []⟩ else ⟨[], [], []⟩
theorem w22 {T : Tab} (hO : T.own = fun _ => []) (hT35 : T 35 = some G35) (hT36 : T 36 = some G36) (a0 : Tapi_Filter) (a1 : Int) (x : (List Int) × Int) (hr : Zaj a0 a1 = some x) : ∃ kp fl n, ZI tt T G kp fl n Try.f22 (E22 (a0, a1)) = some (R22 (a0, a1) x) := by
 simp only [E22, R22]
 refine fnE (kp := kp22) (w := false) body22 (by simp) ?_
 unfold c22
 rw [Try.ntmps22]
 unfold Zaj at hr
 refine Za rfl (by simp []; rfl) ?_
 refine Zf ?_
 by_cases c18 : 4096 < a0.1
 ·skip
  refine Za rfl (by simp [c18]; rfl) ?_
  rw [if_pos] at hr
  rotate_left
  ·simp [c18]
  refine Ze (by simp [bV, c18]) ?_
  refine Zf ?_
  refine Za rfl (by simp [c18]; rfl) ?_
  refine Zl ?_
  obtain rfl := Option.some.inj hr
  simp [Zn, c18]
 ·skip
  refine Za rfl (by simp [c18]; rfl) ?_
  by_cases c19 : 200000 < (a0.2.length : Int)
  ·skip
   have c19N := c19
   try simp at c19N
   first | have c19M : (_ = _) = True := eq_true c19N | have c19M := c19N
   rw [if_pos] at hr
   rotate_left
   ·simp [c18, c19, c19M]
   refine Ze (by simp [bV, c18, c19, c19M]) ?_
   refine Zf ?_
   refine Za rfl (by simp [c18, c19, c19M]; rfl) ?_
   refine Zl ?_
   obtain rfl := Option.some.inj hr
   simp [Zn, c18, c19, c19M, c19N]
  ·skip
   have c19N := c19
   try simp at c19N
   first | have c19M : (_ = _) = True := eq_true c19N | have c19M := c19N
   rw [if_neg] at hr
   rotate_left
   ·simp [c18, c19, c19M]
   refine Zg (by simp [bV, c18, c19, c19M]) ?_
   refine Zh ?_
   refine Zf ?_
   by_cases c20 : a0.1 < 0
   ·skip
    refine Za rfl (by simp [c18, c19, c19M, c20]; rfl) ?_
    rw [if_pos] at hr
    rotate_left
    ·simp [c18, c19, c19M, c20]
    refine Ze (by simp [bV, c18, c19, c19M, c20]) ?_
    refine Zf ?_
    refine Za rfl (by simp [c18, c19, c19M, c20]; rfl) ?_
    refine Zl ?_
    obtain rfl := Option.some.inj hr
    simp [Zn, c18, c19, c19M, c20, c19N]
   ·skip
    by_cases c21 : a1 < 0
    ·skip
     refine Za rfl (by simp [c18, c19, c19M, c20, c21]; rfl) ?_
     rw [if_pos] at hr
     rotate_left
     ·simp [c18, c19, c19M, c20, c21]
     refine Ze (by simp [bV, c18, c19, c19M, c20, c21]) ?_
     refine Zf ?_
     refine Za rfl (by simp [c18, c19, c19M, c20, c21]; rfl) ?_
     refine Zl ?_
     obtain rfl := Option.some.inj hr
     simp [Zn, c18, c19, c19M, c20, c21, c19N]
    ·skip
     refine Za rfl (by simp [c18, c19, c19M, c20, c21]; rfl) ?_
     by_cases c22 : 32 < a1
     ·skip
      rw [if_pos] at hr
      rotate_left
      ·simp [c18, c19, c19M, c20, c21, c22]
      refine Ze (by simp [bV, c18, c19, c19M, c20, c21, c22]) ?_
      refine Zf ?_
      refine Za rfl (by simp [c18, c19, c19M, c20, c21, c22]; rfl) ?_
      refine Zl ?_
      obtain rfl := Option.some.inj hr
      simp [Zn, c18, c19, c19M, c20, c21, c22, c19N]
     ·skip
      rw [if_neg] at hr
      rotate_left
      ·simp [c18, c19, c19M, c20, c21, c22]
      refine Zg (by simp [bV, c18, c19, c19M, c20, c21, c22]) ?_
      refine Zh ?_
      refine Za rfl (by simp [c18, c19, c19M, c20, c21, c22]; rfl) ?_
      obtain ⟨_, u23, hr⟩ := bs hr
      obtain ⟨u23_0, u23_1⟩ := Zp u23
      have mf24 : 0 ≤ (a0.1).toNat := by omega
      have mf25 : (a0.1).toNat * 8 ≤ 140737488355328 := by omega
      have mf26 : (a0.1).toNat ≤ 9223372036854775807 := by omega
      have mf27 : 0 ≤ a0.1 := by omega
      refine Za rfl (by simp [u23_0, u23_1, mf24, mf25, mf26, mf27, c18, c19, c19M, c20, c21, c22]; rfl) ?_
      refine Za rfl (by simp [c18, c19, c19M, c20, c21, c22]; rfl) ?_
      refine Zf ?_
      refine Za rfl (by simp [c18, c19, c19M, c20, c21, c22]; rfl) ?_
      refine Zk ?_
      refine ZU (kq := ⟨[1, 6, 7, 8, 9, 48, 49], [6, 46], []⟩) (H := fun (s : Int × Int × Int × (List Int)) => match s with | (p9, p10, p11, p12) => (⟨(und 1 ++ ([.one (.v (.int .i64 a1))] ++ (und 4 ++ ([.ptr 6 0 0 0 2, .one (.ms 46 0 0 (p12.length) 1), .one (.v (.int .u64 p9)), .one (.v (.int .i64 p10))] ++ (und 38 ++ ([.one (.v (.int .i64 a0.1)), .one (.v (.int .i64 p11))] ++ (und 46)))))) : List PV), ([(6, ⟨0, 2, [[.slice .no (Zi .u8 a0.2), .v (.int .i64 (IntKind.i64.wrap (8 * (a0.2.length : Int))))]], false, false⟩), (46, ⟨0, 1, Zi .u64 p12, false, true⟩)] : Boxes)⟩ : ASt)) (by kernel_rfl) hr (by simp [und, List.replicate, c18, c19, c19M, c20, c21, c22]) ?_
      rintro ⟨p9, p10, p11, p12⟩ x35r hr35
      simp only [Zav] at hr35
      unfold b22_1
      simp only [und, List.replicate, List.cons_append, List.nil_append]
      refine Za rfl (by simp [c18, c19, c19M, c20, c21, c22]; rfl) ?_
      by_cases c36 : p11 < a0.1
      ·skip
       rw [if_pos] at hr35
       rotate_left
       ·simp [c18, c19, c19M, c20, c21, c22, c36]
       refine Ze (by simp [bV, c18, c19, c19M, c20, c21, c22, c36]) ?_
       refine Zh ?_
       refine Zk ?_
       obtain ⟨y37, hy37, hr35⟩ := bs hr35
       have ehy37 := Zoj hy37
       simp only [E35, R35, nf, nfs] at ehy37
       refine Za rfl (by simp [hO, hT35, ehy37, c18, c19, c19M, c20, c21, c22, c36]; rfl) ?_
       refine Zf ?_
       refine Za rfl (by simp [c18, c19, c19M, c20, c21, c22, c36]; rfl) ?_
       by_cases c38 : y37.2.2 = 0
       ·skip
        rw [if_neg (not_not_intro c38)] at hr35
        refine Zg (by simp [bV, c18, c19, c19M, c20, c21, c22, c36, eq_true c38]) ?_
        refine Zh ?_
        refine Zf ?_
        refine Za rfl (by simp [c18, c19, c19M, c20, c21, c22, c36, eq_true c38]; rfl) ?_
        by_cases c39 : IntKind.u64.wrap (p9 + y37.1) < p9
        ·skip
         rw [if_pos] at hr35
         rotate_left
         ·simp [c18, c19, c19M, c20, c21, c22, c36, eq_true c38, c39]
         refine Ze (by simp [bV, c18, c19, c19M, c20, c21, c22, c36, eq_true c38, c39]) ?_
         refine Zf ?_
         refine Za rfl (by simp [c18, c19, c19M, c20, c21, c22, c36, eq_true c38, c39]; rfl) ?_
         refine Zl ?_
         obtain rfl := Option.some.inj hr35
         simp only [pq, reduceCtorEq]
         rintro rfl
         simp [Zn, c18, c19, c19M, c20, c21, c22, c36, eq_true c38, c39, c19N]
        ·skip
         rw [if_neg] at hr35
         rotate_left
         ·simp [c18, c19, c19M, c20, c21, c22, c36, eq_true c38, c39]
         refine Zg (by simp [bV, c18, c19, c19M, c20, c21, c22, c36, eq_true c38, c39]) ?_
         refine Zh ?_
         refine Za rfl (by simp [c18, c19, c19M, c20, c21, c22, c36, eq_true c38, c39]; rfl) ?_
         obtain ⟨_, u40, hr35⟩ := bs hr35
         have u40_0 := Zp u40
         have n1_u40_0 : (p12.length + 1) * 8 ≤ 140737488355328 := by omega
         have n2_u40_0 : p12.length + 1 ≤ 9223372036854775807 := by omega
         refine ZA rfl (by simp [n1_u40_0, n2_u40_0, c18, c19, c19M, c20, c21, c22, c36, eq_true c38, c39]; rfl) ?_
         simp only [pq, reduceCtorEq]
         refine ZA rfl (by simp [c18, c19, c19M, c20, c21, c22, c36, eq_true c38, c39]; rfl) ?_
         obtain rfl := Option.some.inj hr35
         simp only [pq, reduceCtorEq]
         simp [und, List.replicate, Nat.add_assoc, c18, c19, c19M, c20, c21, c22, c36, eq_true c38, c39]
       ·skip
        rw [if_pos c38] at hr35
        refine Ze (by simp [bV, c18, c19, c19M, c20, c21, c22, c36, c38]) ?_
        refine Zf ?_
        refine Za rfl (by simp [c18, c19, c19M, c20, c21, c22, c36, c38]; rfl) ?_
        refine Zl ?_
        obtain rfl := Option.some.inj hr35
        simp only [pq, reduceCtorEq]
        rintro rfl
        simp [Zn, c18, c19, c19M, c20, c21, c22, c36, c38, c19N]
      ·skip
       rw [if_neg] at hr35
       rotate_left
       ·simp [c18, c19, c19M, c20, c21, c22, c36]
       refine Zg (by simp [bV, c18, c19, c19M, c20, c21, c22, c36]) ?_
       refine Zo ?_
       obtain ⟨r41, q41, rfl⟩ := ms hr35
       simp only [pq, reduceCtorEq]
       rintro rfl
       try simp only [pq, reduceCtorEq]
       unfold ZcB at q41
       refine Za rfl (by simp [c18, c19, c19M, c20, c21, c22, c36]; rfl) ?_
       refine Zf ?_
       refine Za rfl (by simp [c18, c19, c19M, c20, c21, c22, c36]; rfl) ?_
       by_cases c42 : 8 ≤ IntKind.i64.wrap ((IntKind.i64.wrap (8 * (a0.2.length : Int))) - p10)
       ·skip
        have c42N := c42
        try simp at c42N
        first | have c42M : (_ = _) = True := eq_true c42N | have c42M := c42N
        rw [if_pos c42] at q41
        refine Ze (by simp [bV, c18, c19, c19M, c20, c21, c22, c36, c42, c42M]) ?_
        refine Zf ?_
        refine Za rfl (by simp [c18, c19, c19M, c20, c21, c22, c36, c42, c42M]; rfl) ?_
        refine Zl ?_
        obtain rfl := Option.some.inj q41
        simp [Zn, c18, c19, c19M, c20, c21, c22, c36, c42, c42M, c19N, c42N]
       ·skip
        have c42N := c42
        try simp at c42N
        first | have c42M : (_ = _) = True := eq_true c42N | have c42M := c42N
        rw [if_neg c42] at q41
        refine Zg (by simp [bV, c18, c19, c19M, c20, c21, c22, c36, c42, c42M]) ?_
        refine Zh ?_
        obtain ⟨y43, hy43, q41⟩ := bs q41
        have ehy43 := Zok hy43
        simp only [E36, R36, nf, nfs] at ehy43
        refine Za rfl (by simp [hO, hT36, ehy43, c18, c19, c19M, c20, c21, c22, c36, c42, c42M]; rfl) ?_
        refine Zf ?_
        refine Za rfl (by simp [c18, c19, c19M, c20, c21, c22, c36, c42, c42M]; rfl) ?_
        by_cases c44 : y43.2.2 = 0
        ·skip
         rw [if_neg (not_not_intro c44)] at q41
         refine Zg (by simp [bV, c18, c19, c19M, c20, c21, c22, c36, c42, c42M, eq_true c44]) ?_
         refine Zh ?_
         refine Zf ?_
         refine Za rfl (by simp [c18, c19, c19M, c20, c21, c22, c36, c42, c42M, eq_true c44]; rfl) ?_
         by_cases c45 : y43.1 = 0
         ·skip
          rw [if_neg (not_not_intro c45)] at q41
          refine Zg (by simp [bV, c18, c19, c19M, c20, c21, c22, c36, c42, c42M, eq_true c44, eq_true c45]) ?_
          refine Zh ?_
          refine Za rfl (by simp [c18, c19, c19M, c20, c21, c22, c36, c42, c42M, eq_true c44, eq_true c45]; rfl) ?_
          refine Zx ?_
          obtain rfl := Option.some.inj q41
          simp [Zn, c18, c19, c19M, c20, c21, c22, c36, c42, c42M, eq_true c44, eq_true c45, c19N, c42N]
         ·skip
          rw [if_pos c45] at q41
          refine Ze (by simp [bV, c18, c19, c19M, c20, c21, c22, c36, c42, c42M, eq_true c44, c45]) ?_
          refine Zf ?_
          refine Za rfl (by simp [c18, c19, c19M, c20, c21, c22, c36, c42, c42M, eq_true c44, c45]; rfl) ?_
          refine Zl ?_
          obtain rfl := Option.some.inj q41
          simp [Zn, c18, c19, c19M, c20, c21, c22, c36, c42, c42M, eq_true c44, c45, c19N, c42N]
        ·skip
         rw [if_pos c44] at q41
         refine Ze (by simp [bV, c18, c19, c19M, c20, c21, c22, c36, c42, c42M, c44]) ?_
         refine Zf ?_
         refine Za rfl (by simp [c18, c19, c19M, c20, c21, c22, c36, c42, c42M, c44]; rfl) ?_
         refine Zl ?_
         obtain rfl := Option.some.inj q41
         simp [Zn, c18, c19, c19M, c20, c21, c22, c36, c42, c42M, c44, c19N, c42N]
def kp24 : Keep := fun i => if i = 9 then ⟨[12, 15, 39, 40, 41], [], []⟩ else if i = 1000013 then ⟨[12, 15, 17, 39, 40, 41], [], []⟩ else if i = 11 then ⟨[12, 15, 17, 39, 40, 41], [], []⟩ else ⟨[], [], []⟩
theorem w24 {T : Tab} (hO : T.own = fun _ => []) (hT19 : T 19 = some G19) (hT22 : T 22 = some G22) (a0 : (Arr 2)) (a1 : Tapi_Filter) (a2 : (List (List Int))) (a3 : Int) (a4 : Int) (x : Bool × Int) (hr : Zaa a0 a1 a2 a3 a4 = some x) : ∃ kp fl n, ZI tt T G kp fl n Try.f24 (E24 (a0, a1, a2, a3, a4)) = some (R24 (a0, a1, a2, a3, a4) x) := by
 simp only [E24, R24]
 refine fnE (kp := kp24) (w := false) body24 (by simp) ?_
 unfold c24
 rw [Try.ntmps24]
 unfold Zaa at hr
 refine Za rfl (by simp []; rfl) ?_
 obtain ⟨y53, hy53, hr⟩ := bs hr
 have ehy53 := Zol hy53
 simp only [E22, R22, nf, nfs] at ehy53
 refine Za rfl (by simp [hO, hT22, ehy53]; rfl) ?_
 refine Zf ?_
 refine Za rfl (by simp []; rfl) ?_
 by_cases c54 : y53.2 = 0
 ·skip
  rw [if_neg (not_not_intro c54)] at hr
  refine Zg (by simp [bV, eq_true c54]) ?_
  refine Zh ?_
  obtain ⟨y55, hy55, hr⟩ := bs hr
  have ehy55 := Zoi hy55
  simp only [E19, R19, nf, nfs] at ehy55
  refine Za rfl (by simp [hO, hT19, ehy55, eq_true c54]; rfl) ?_
  refine Zf ?_
  refine Za rfl (by simp [eq_true c54]; rfl) ?_
  by_cases c56 : y55.2 = 0
  ·skip
   rw [if_neg (not_not_intro c56)] at hr
   refine Zg (by simp [bV, eq_true c54, eq_true c56]) ?_
   refine Zh ?_
   refine Za rfl (by simp [eq_true c54, eq_true c56]; rfl) ?_
   refine Zf ?_
   refine Za rfl (by simp [eq_true c54, eq_true c56]; rfl) ?_
   refine Zk ?_
   refine ZU (kq := ⟨[12, 15, 39, 40, 41], [], []⟩) (H := fun (s : Int × Int) => match s with | (p27, p28) => (⟨(und 12 ++ ([.one (.slice .no (Zi .u64 y53.1))] ++ (und 2 ++ ([.one (.v (.int .i64 p27))] ++ (und 23 ++ ([.one (.slice .no (Zi .u64 y55.1)), .one (.v (.int .i64 (y55.1.length : Int))), .one (.v (.int .i64 p28))] ++ (und 30)))))) : List PV), ([] : Boxes)⟩ : ASt)) (by kernel_rfl) hr (by simp [und, List.replicate, eq_true c54, eq_true c56]) ?_
   rintro ⟨p27, p28⟩ x83r hr83
   simp only [ZaK] at hr83
   unfold b24_1
   simp only [und, List.replicate, List.cons_append, List.nil_append]
   refine Za rfl (by simp [eq_true c54, eq_true c56]; rfl) ?_
   by_cases c84 : p28 < (y55.1.length : Int)
   ·skip
    have c84N := c84
    try simp at c84N
    first | have c84M : (_ = _) = True := eq_true c84N | have c84M := c84N
    rw [if_pos] at hr83
    rotate_left
    ·simp [eq_true c54, eq_true c56, c84, c84M]
    refine Ze (by simp [bV, eq_true c54, eq_true c56, c84, c84M]) ?_
    refine Zh ?_
    refine Zk ?_
    obtain ⟨x85, hx85, hr83⟩ := bs hr83
    obtain ⟨hx85a, hx85b⟩ := Y8 hx85
    have hx85c := Zq hx85b
    refine Za rfl (by simp [hx85a, hx85b, hx85c, eq_true c54, eq_true c56, c84, c84M]; rfl) ?_
    refine Zk ?_
    refine ZbR hr83 (.exit 2) (fun (s : Int) => match s with | p46 => (⟨(und 12 ++ ([.one (.slice .no (Zi .u64 y53.1))] ++ (und 2 ++ ([.one (.v (.int .i64 p46))] ++ (und 1 ++ ([.one (.v (.int .u64 x85))] ++ (und 21 ++ ([.one (.slice .no (Zi .u64 y55.1)), .one (.v (.int .i64 (y55.1.length : Int))), .one (.v (.int .i64 p28))] ++ (und 30)))))))) : List PV), ([] : Boxes)⟩ : ASt)) (fun (s : Int) => match s with | p46 => XQ p46 y53 x85 p28) ?_ ?_
    ·skip
     rintro p46 hk94
     change XQ p46 y53 x85 p28 = _ at hk94
     simp only [pq, reduceCtorEq]
     simp only [und, List.replicate, List.cons_append, List.nil_append]
     unfold XQ at hk94
     by_cases c95 : p46 < (y53.1.length : Int)
     ·skip
      have c95N := c95
      try simp at c95N
      first | have c95M : (_ = _) = True := eq_true c95N | have c95M := c95N
      rw [if_pos] at hk94
      rotate_left
      ·simp [eq_true c54, eq_true c56, c84, c84M, c95, c95M]
      obtain ⟨z96, hz96, hk94⟩ := bs hk94
      obtain ⟨x97, hx97, hz96⟩ := bs hz96
      obtain ⟨hx97a, hx97b⟩ := Y8 hx97
      have hx97c := Zq hx97b
      obtain rfl := Option.some.inj hz96
      refine Y6 rfl (kq := ⟨[12, 15, 17, 39, 40, 41], [], []⟩) rfl (by simp [Ys, hx97a, hx97b, hx97c, eq_true c54, eq_true c56, c84, c84M, c95, c95M]; rfl) (by simp [hx97a, hx97b, hx97c, eq_true c54, eq_true c56, c84, c84M, c95, c95M]; rfl) ?_
      by_cases c98 : x97 = x85
      ·skip
       rw [if_pos] at hk94
       rotate_left
       ·simp [eq_true c54, eq_true c56, c84, c84M, c95, c95M, eq_true c98]
       refine Yo (by simp [bV, eq_true c54, eq_true c56, c84, c84M, c95, c95M, eq_true c98]) ?_
       refine Za rfl (by simp [eq_true c54, eq_true c56, c84, c84M, c95, c95M, eq_true c98]; rfl) ?_
       refine Zx ?_
       obtain rfl := Option.some.inj hk94
       simp only [pq, reduceCtorEq]
       rintro rfl
       simp [Zn, eq_true c54, eq_true c56, c84, c84M, c95, c95M, eq_true c98, c84N, c95N]
      ·skip
       rw [if_neg] at hk94
       rotate_left
       ·simp [eq_true c54, eq_true c56, c84, c84M, c95, c95M, c98]
       refine YI (by simp [bV, eq_true c54, eq_true c56, c84, c84M, c95, c95M, c98]) ?_
       refine XA ?_
       simp only [pq, reduceCtorEq]
       refine ZA rfl (by simp [eq_true c54, eq_true c56, c84, c84M, c95, c95M, c98]; rfl) ?_
       obtain rfl := Option.some.inj hk94
       simp only [pq, reduceCtorEq]
       simp [und, List.replicate, Nat.add_assoc, eq_true c54, eq_true c56, c84, c84M, c95, c95M, c98]
     ·skip
      have c95N := c95
      try simp at c95N
      first | have c95M : (_ = _) = True := eq_true c95N | have c95M := c95N
      rw [if_neg] at hk94
      rotate_left
      ·simp [eq_true c54, eq_true c56, c84, c84M, c95, c95M]
      obtain ⟨z99, hz99, hk94⟩ := bs hk94
      obtain rfl := Option.some.inj hz99
      refine Y6 rfl (kq := ⟨[12, 15, 17, 39, 40, 41], [], []⟩) rfl (by simp [Ys, eq_true c54, eq_true c56, c84, c84M, c95, c95M]; rfl) (by simp [eq_true c54, eq_true c56, c84, c84M, c95, c95M]; rfl) ?_
      rw [if_neg] at hk94
      rotate_left
      ·simp [eq_true c54, eq_true c56, c84, c84M, c95, c95M]
      refine YI (by simp [bV, eq_true c54, eq_true c56, c84, c84M, c95, c95M]) ?_
      refine XA ?_
      simp only [pq, reduceCtorEq]
      refine ZA rfl (by simp [eq_true c54, eq_true c56, c84, c84M, c95, c95M]; rfl) ?_
      obtain rfl := Option.some.inj hk94
      simp only [pq, reduceCtorEq]
      simp [und, List.replicate, Nat.add_assoc, eq_true c54, eq_true c56, c84, c84M, c95, c95M]
    ·skip
     intro J94
     simp only [pq, reduceCtorEq] at J94
     refine ZU (kq := ⟨[12, 15, 17, 39, 40, 41], [], []⟩) (H := fun (s : Int) => match s with | p46 => (⟨(und 12 ++ ([.one (.slice .no (Zi .u64 y53.1))] ++ (und 2 ++ ([.one (.v (.int .i64 p46))] ++ (und 1 ++ ([.one (.v (.int .u64 x85))] ++ (und 21 ++ ([.one (.slice .no (Zi .u64 y55.1)), .one (.v (.int .i64 (y55.1.length : Int))), .one (.v (.int .i64 p28))] ++ (und 30)))))))) : List PV), ([] : Boxes)⟩ : ASt)) (by kernel_rfl) hr83 (by simp [und, List.replicate, eq_true c54, eq_true c56, c84, c84M]) ?_
     rintro p46 x100r hr100
     simp only [XR] at hr100
     unfold b24_2
     simp only [und, List.replicate, List.cons_append, List.nil_append]
     refine Zf ?_
     by_cases c101 : p46 < (y53.1.length : Int)
     ·skip
      have c101N := c101
      try simp at c101N
      first | have c101M : (_ = _) = True := eq_true c101N | have c101M := c101N
      rw [if_pos] at hr100
      rotate_left
      ·simp [eq_true c54, eq_true c56, c84, c84M, c101, c101M]
      obtain ⟨z102, hz102, hr100⟩ := bs hr100
      obtain ⟨x103, hx103, hz102⟩ := bs hz102
      obtain ⟨hx103a, hx103b⟩ := Y8 hx103
      have hx103c := Zq hx103b
      obtain rfl := Option.some.inj hz102
      refine Za rfl (by simp [hx103a, hx103b, hx103c, eq_true c54, eq_true c56, c84, c84M, c101, c101M]; rfl) ?_
      by_cases c104 : x103 < x85
      ·skip
       rw [if_pos] at hr100
       rotate_left
       ·simp [eq_true c54, eq_true c56, c84, c84M, c101, c101M, c104]
       refine Ze (by simp [bV, eq_true c54, eq_true c56, c84, c84M, c101, c101M, c104]) ?_
       refine Zh ?_
       refine YT ?_
       refine ZA rfl (by simp [eq_true c54, eq_true c56, c84, c84M, c101, c101M, c104]; rfl) ?_
       obtain rfl := Option.some.inj hr100
       simp only [pq, reduceCtorEq]
       simp [und, List.replicate, Nat.add_assoc, eq_true c54, eq_true c56, c84, c84M, c101, c101M, c104]
      ·skip
       rw [if_neg] at hr100
       rotate_left
       ·simp [eq_true c54, eq_true c56, c84, c84M, c101, c101M, c104]
       refine Zg (by simp [bV, eq_true c54, eq_true c56, c84, c84M, c101, c101M, c104]) ?_
       refine Zo ?_
       obtain ⟨r105, q105, rfl⟩ := ms hr100
       simp only [pq, reduceCtorEq]
       rintro rfl
       try simp only [pq, reduceCtorEq]
       exact ZK (key := 1000013) (kq := ⟨[12, 15, 17, 39, 40, 41], [], []⟩) rfl rfl rfl (by simp [und, List.replicate, eq_true c54, eq_true c56, c84, c84M, c101, c101M, c104]) (J94 p46 q105)
     ·skip
      have c101N := c101
      try simp at c101N
      first | have c101M : (_ = _) = True := eq_true c101N | have c101M := c101N
      rw [if_neg] at hr100
      rotate_left
      ·simp [eq_true c54, eq_true c56, c84, c84M, c101, c101M]
      obtain ⟨z106, hz106, hr100⟩ := bs hr100
      obtain rfl := Option.some.inj hz106
      refine Za rfl (by simp [eq_true c54, eq_true c56, c84, c84M, c101, c101M]; rfl) ?_
      rw [if_neg] at hr100
      rotate_left
      ·simp [eq_true c54, eq_true c56, c84, c84M, c101, c101M]
      refine Zg (by simp [bV, eq_true c54, eq_true c56, c84, c84M, c101, c101M]) ?_
      refine Zo ?_
      obtain ⟨r107, q107, rfl⟩ := ms hr100
      simp only [pq, reduceCtorEq]
      rintro rfl
      try simp only [pq, reduceCtorEq]
      exact ZK (key := 1000013) (kq := ⟨[12, 15, 17, 39, 40, 41], [], []⟩) rfl rfl rfl (by simp [und, List.replicate, eq_true c54, eq_true c56, c84, c84M, c101, c101M]) (J94 p46 q107)
   ·skip
    have c84N := c84
    try simp at c84N
    first | have c84M : (_ = _) = True := eq_true c84N | have c84M := c84N
    rw [if_neg] at hr83
    rotate_left
    ·simp [eq_true c54, eq_true c56, c84, c84M]
    refine Zg (by simp [bV, eq_true c54, eq_true c56, c84, c84M]) ?_
    refine Zo ?_
    obtain ⟨r108, q108, rfl⟩ := ms hr83
    simp only [pq, reduceCtorEq]
    rintro rfl
    try simp only [pq, reduceCtorEq]
    unfold Lgolomb_Match_k1 at q108
    refine Za rfl (by simp [eq_true c54, eq_true c56, c84, c84M]; rfl) ?_
    refine Zx ?_
    obtain rfl := Option.some.inj q108
    simp [Zn, eq_true c54, eq_true c56, c84, c84M, c84N]
  ·skip
   rw [if_pos c56] at hr
   refine Ze (by simp [bV, eq_true c54, c56]) ?_
   refine Zf ?_
   refine Za rfl (by simp [eq_true c54, c56]; rfl) ?_
   refine Zl ?_
   obtain rfl := Option.some.inj hr
   simp [Zn, eq_true c54, c56]
 ·skip
  rw [if_pos c54] at hr
  refine Ze (by simp [bV, c54]) ?_
  refine Zf ?_
  refine Za rfl (by simp [c54]; rfl) ?_
  refine Zl ?_
  obtain rfl := Option.some.inj hr
  simp [Zn, c54]
def kp20 : Keep := fun i => if i = 7 then ⟨[2, 3, 4, 10, 11, 33, 34, 35], [4, 46], [(10, none, 46, 1)]⟩ else if i = 12 then ⟨[11, 49, 50, 51], [71], [(11, none, 71, 1)]⟩ else if i = 1000016 then ⟨[11, 49, 50, 51], [71], []⟩ else ⟨[], [], []⟩
theorem w20 {T : Tab} (hO : T.own = fun _ => []) (hT32 : T 32 = some G32) (hT33 : T 33 = some G33) (a0 : (Arr 2)) (a1 : (List (List Int))) (a2 : Int) (a3 : Int) (x : (List Int) × Int) (hr : Zaz a0 a1 a2 a3 = some x) : ∃ kp fl n, ZI tt T G kp fl n Try.f20 (E20 (a0, a1, a2, a3)) = some (R20 (a0, a1, a2, a3) x) := by
 simp only [E20, R20]
 refine fnE (kp := kp20) (w := false) body20 (by simp) ?_
 unfold c20
 rw [Try.ntmps20]
 unfold Zaz at hr
 refine Za rfl (by simp []; rfl) ?_
 refine Zf ?_
 refine Za rfl (by simp []; rfl) ?_
 by_cases c44 : 4096 < (a1.length : Int)
 ·skip
  have c44N := c44
  try simp at c44N
  first | have c44M : (_ = _) = True := eq_true c44N | have c44M := c44N
  rw [if_pos c44] at hr
  refine Ze (by simp [bV, c44, c44M]) ?_
  refine Zf ?_
  refine Za rfl (by simp [c44, c44M]; rfl) ?_
  refine Zl ?_
  obtain rfl := Option.some.inj hr
  simp [Zn, c44, c44M, c44N]
 ·skip
  have c44N := c44
  try simp at c44N
  first | have c44M : (_ = _) = True := eq_true c44N | have c44M := c44N
  rw [if_neg c44] at hr
  refine Zg (by simp [bV, c44, c44M]) ?_
  refine Zh ?_
  refine Zf ?_
  by_cases c45 : a2 < 0
  ·skip
   refine Za rfl (by simp [c44, c44M, c45]; rfl) ?_
   rw [if_pos] at hr
   rotate_left
   ·simp [c44, c44M, c45]
   refine Ze (by simp [bV, c44, c44M, c45]) ?_
   refine Zf ?_
   refine Za rfl (by simp [c44, c44M, c45]; rfl) ?_
   refine Zl ?_
   obtain rfl := Option.some.inj hr
   simp [Zn, c44, c44M, c45, c44N]
  ·skip
   by_cases c46 : 4096 < a2
   ·skip
    refine Za rfl (by simp [c44, c44M, c45, c46]; rfl) ?_
    rw [if_pos] at hr
    rotate_left
    ·simp [c44, c44M, c45, c46]
    refine Ze (by simp [bV, c44, c44M, c45, c46]) ?_
    refine Zf ?_
    refine Za rfl (by simp [c44, c44M, c45, c46]; rfl) ?_
    refine Zl ?_
    obtain rfl := Option.some.inj hr
    simp [Zn, c44, c44M, c45, c46, c44N]
   ·skip
    by_cases c47 : a3 < 1
    ·skip
     refine Za rfl (by simp [c44, c44M, c45, c46, c47]; rfl) ?_
     rw [if_pos] at hr
     rotate_left
     ·simp [c44, c44M, c45, c46, c47]
     refine Ze (by simp [bV, c44, c44M, c45, c46, c47]) ?_
     refine Zf ?_
     refine Za rfl (by simp [c44, c44M, c45, c46, c47]; rfl) ?_
     refine Zl ?_
     obtain rfl := Option.some.inj hr
     simp [Zn, c44, c44M, c45, c46, c47, c44N]
    ·skip
     refine Za rfl (by simp [c44, c44M, c45, c46, c47]; rfl) ?_
     by_cases c48 : 1099511627776 < a3
     ·skip
      rw [if_pos] at hr
      rotate_left
      ·simp [c44, c44M, c45, c46, c47, c48]
      refine Ze (by simp [bV, c44, c44M, c45, c46, c47, c48]) ?_
      refine Zf ?_
      refine Za rfl (by simp [c44, c44M, c45, c46, c47, c48]; rfl) ?_
      refine Zl ?_
      obtain rfl := Option.some.inj hr
      simp [Zn, c44, c44M, c45, c46, c47, c48, c44N]
     ·skip
      rw [if_neg] at hr
      rotate_left
      ·simp [c44, c44M, c45, c46, c47, c48]
      refine Zg (by simp [bV, c44, c44M, c45, c46, c47, c48]) ?_
      refine Zh ?_
      refine Za rfl (by simp [c44, c44M, c45, c46, c47, c48]; rfl) ?_
      refine Zf ?_
      refine Za rfl (by simp [c44, c44M, c45, c46, c47, c48]; rfl) ?_
      refine Zk ?_
      refine ZU (kq := ⟨[2, 3, 4, 10, 11, 33, 34, 35], [4, 46], [(10, none, 46, 1)]⟩) (H := fun (s : Int × (List Int)) => match s with | (p8, p9) => (⟨(und 2 ++ ([.one (.v (.int .i64 a2)), .one (.v (.int .u64 a3)), .ptr 4 0 0 0 2] ++ (und 5 ++ ([.one (.ms 46 0 0 (p9.length) 1), .one (.slice .nil [])] ++ (und 21 ++ ([.one (.slice .no (List.map Ym a1)), .one (.v (.int .i64 (a1.length : Int))), .one (.v (.int .i64 p8))] ++ (und 38)))))) : List PV), ([(4, ⟨0, 2, [arC .u64 a0], false, false⟩), (46, ⟨0, 1, Zi .u64 p9, false, true⟩)] : Boxes)⟩ : ASt)) (by kernel_rfl) hr (by simp [und, List.replicate, c44, c44M, c45, c46, c47, c48]) ?_
      rintro ⟨p8, p9⟩ x55r hr55
      simp only [Zbr] at hr55
      unfold b20_1
      simp only [und, List.replicate, List.cons_append, List.nil_append]
      refine Za rfl (by simp [c44, c44M, c45, c46, c47, c48]; rfl) ?_
      by_cases c56 : p8 < (a1.length : Int)
      ·skip
       have c56N := c56
       try simp at c56N
       first | have c56M : (_ = _) = True := eq_true c56N | have c56M := c56N
       rw [if_pos] at hr55
       rotate_left
       ·simp [c44, c44M, c45, c46, c47, c48, c56, c56M]
       refine Ze (by simp [bV, c44, c44M, c45, c46, c47, c48, c56, c56M]) ?_
       refine Zh ?_
       refine Zk ?_
       obtain ⟨x57, hx57, hr55⟩ := bs hr55
       obtain ⟨hx57a, hx57b⟩ := Y8 hx57
       have hx57c := Zq hx57b
       refine Za rfl (by simp [hx57a, hx57b, hx57c, c44, c44M, c45, c46, c47, c48, c56, c56M]; rfl) ?_
       obtain ⟨y58, hy58, hr55⟩ := bs hr55
       have ehy58 := Zlz hy58
       simp only [E32, R32, nf, nfs] at ehy58
       obtain ⟨_, u59, hr55⟩ := bs hr55
       have u59_0 := Zp u59
       have n1_u59_0 : (p9.length + 1) * 8 ≤ 140737488355328 := by omega
       have n2_u59_0 : p9.length + 1 ≤ 9223372036854775807 := by omega
       refine ZA rfl (by simp [hO, hT32, ehy58, n1_u59_0, n2_u59_0, c44, c44M, c45, c46, c47, c48, c56, c56M]; rfl) ?_
       simp only [pq, reduceCtorEq]
       refine ZA rfl (by simp [c44, c44M, c45, c46, c47, c48, c56, c56M]; rfl) ?_
       obtain rfl := Option.some.inj hr55
       simp only [pq, reduceCtorEq]
       simp [und, List.replicate, Nat.add_assoc, c44, c44M, c45, c46, c47, c48, c56, c56M]
      ·skip
       have c56N := c56
       try simp at c56N
       first | have c56M : (_ = _) = True := eq_true c56N | have c56M := c56N
       rw [if_neg] at hr55
       rotate_left
       ·simp [c44, c44M, c45, c46, c47, c48, c56, c56M]
       refine Zg (by simp [bV, c44, c44M, c45, c46, c47, c48, c56, c56M]) ?_
       refine Zo ?_
       obtain ⟨r60, q60, rfl⟩ := ms hr55
       simp only [pq, reduceCtorEq]
       rintro rfl
       try simp only [pq, reduceCtorEq]
       unfold ZcZ at q60
       refine Zf ?_
       obtain ⟨y61, hy61, q60⟩ := bs q60
       have ehy61 := ZlA hy61
       simp only [E33, R33, nf, nfs] at ehy61
       refine Za rfl (by simp [hO, hT33, ehy61, c44, c44M, c45, c46, c47, c48, c56, c56M]; rfl) ?_
       refine Zk ?_
       refine ZU (kq := ⟨[11, 49, 50, 51], [71], [(11, none, 71, 1)]⟩) (H := fun (s : Int × (List Int)) => match s with | (p26, p27) => (⟨(und 11 ++ ([.one (.ms 71 0 0 (p27.length) 1)] ++ (und 37 ++ ([.one (.slice .no (Zi .u64 y61)), .one (.v (.int .i64 (y61.length : Int))), .one (.v (.int .i64 p26))] ++ (und 22)))) : List PV), ([(71, ⟨0, 1, Zi .u64 p27, false, true⟩)] : Boxes)⟩ : ASt)) (by kernel_rfl) q60 (by simp [und, List.replicate, c44, c44M, c45, c46, c47, c48, c56, c56M]) ?_
       rintro ⟨p26, p27⟩ x78r hr78
       simp only [Zbq] at hr78
       unfold b20_2
       simp only [und, List.replicate, List.cons_append, List.nil_append]
       refine Za rfl (by simp [c44, c44M, c45, c46, c47, c48, c56, c56M]; rfl) ?_
       by_cases c79 : p26 < (y61.length : Int)
       ·skip
        have c79N := c79
        try simp at c79N
        first | have c79M : (_ = _) = True := eq_true c79N | have c79M := c79N
        rw [if_pos] at hr78
        rotate_left
        ·simp [c44, c44M, c45, c46, c47, c48, c56, c56M, c79, c79M]
        refine Ze (by simp [bV, c44, c44M, c45, c46, c47, c48, c56, c56M, c79, c79M]) ?_
        refine Zh ?_
        refine Zk ?_
        obtain ⟨x80, hx80, hr78⟩ := bs hr78
        obtain ⟨hx80a, hx80b⟩ := Y8 hx80
        have hx80c := Zq hx80b
        refine Za rfl (by simp [hx80a, hx80b, hx80c, c44, c44M, c45, c46, c47, c48, c56, c56M, c79, c79M]; rfl) ?_
        by_cases c81 : p26 = 0
        ·skip
         rw [if_pos] at hr78
         rotate_left
         ·simp [c44, c44M, c45, c46, c47, c48, c56, c56M, c79, c79M, eq_true c81]
         obtain ⟨z82, hz82, hr78⟩ := bs hr78
         obtain rfl := Option.some.inj hz82
         refine Za rfl (by simp [c44, c44M, c45, c46, c47, c48, c56, c56M, c79, c79M, eq_true c81]; rfl) ?_
         rw [if_pos] at hr78
         rotate_left
         ·simp [c44, c44M, c45, c46, c47, c48, c56, c56M, c79, c79M, eq_true c81]
         refine Yo (by simp [bV, c44, c44M, c45, c46, c47, c48, c56, c56M, c79, c79M, eq_true c81]) ?_
         obtain ⟨_, u84, hr78⟩ := bs hr78
         have u84_0 := Zp u84
         have n1_u84_0 : (p27.length + 1) * 8 ≤ 140737488355328 := by omega
         have n2_u84_0 : p27.length + 1 ≤ 9223372036854775807 := by omega
         refine ZA rfl (by simp [n1_u84_0, n2_u84_0, c44, c44M, c45, c46, c47, c48, c56, c56M, c79, c79M, eq_true c81]; rfl) ?_
         simp only [pq, reduceCtorEq]
         unfold Xy at hr78
         refine ZbH rfl (kq := ⟨[11, 49, 50, 51], [71], []⟩) rfl (by simp [Ys, c44, c44M, c45, c46, c47, c48, c56, c56M, c79, c79M, eq_true c81]; rfl) (by simp [c44, c44M, c45, c46, c47, c48, c56, c56M, c79, c79M, eq_true c81]; rfl) ?_
         obtain rfl := Option.some.inj hr78
         simp only [pq, reduceCtorEq]
         simp [und, List.replicate, Nat.add_assoc, c44, c44M, c45, c46, c47, c48, c56, c56M, c79, c79M, eq_true c81]
        ·skip
         rw [if_neg] at hr78
         rotate_left
         ·simp [c44, c44M, c45, c46, c47, c48, c56, c56M, c79, c79M, c81]
         obtain ⟨z85, hz85, hr78⟩ := bs hr78
         obtain ⟨j86, hj86, hz85⟩ := bs hz85
         obtain ⟨j86a, j86b, j86c⟩ := Zm hj86
         obtain ⟨x87, hx87, hz85⟩ := bs hz85
         have ghx87 := Zq hx87
         obtain rfl := Option.some.inj hz85
         refine Za rfl (by simp [j86a, j86b, j86c, hx87, ghx87, c44, c44M, c45, c46, c47, c48, c56, c56M, c79, c79M, c81]; rfl) ?_
         refine ZbR hr78 (.normal) (fun (s : (List Int)) => match s with | p39 => (⟨(und 11 ++ ([.one (.ms 71 0 0 (p39.length) 1)] ++ (und 37 ++ ([.one (.slice .no (Zi .u64 y61)), .one (.v (.int .i64 (y61.length : Int))), .one (.v (.int .i64 p26))] ++ (und 22)))) : List PV), ([(71, ⟨0, 1, Zi .u64 p39, false, true⟩)] : Boxes)⟩ : ASt)) (fun (s : (List Int)) => match s with | p39 => Xy p26 p39) ?_ ?_
         ·skip
          rintro p39 hk90
          change Xy p26 p39 = _ at hk90
          simp only [pq, reduceCtorEq]
          simp only [und, List.replicate, List.cons_append, List.nil_append]
          unfold Xy at hk90
          refine ZbH rfl (kq := ⟨[11, 49, 50, 51], [71], []⟩) rfl (by simp [Ys, c44, c44M, c45, c46, c47, c48, c56, c56M, c79, c79M, c81]; rfl) (by simp [c44, c44M, c45, c46, c47, c48, c56, c56M, c79, c79M, c81]; rfl) ?_
          obtain rfl := Option.some.inj hk90
          simp only [pq, reduceCtorEq]
          simp [und, List.replicate, Nat.add_assoc, c44, c44M, c45, c46, c47, c48, c56, c56M, c79, c79M, c81]
         ·skip
          intro J90
          simp only [pq, reduceCtorEq] at J90
          by_cases c91 : x80 = x87
          ·skip
           rw [if_neg] at hr78
           rotate_left
           ·simp [c44, c44M, c45, c46, c47, c48, c56, c56M, c79, c79M, c81, eq_true c91]
           refine YI (by simp [bV, c44, c44M, c45, c46, c47, c48, c56, c56M, c79, c79M, c81, eq_true c91]) ?_
           refine XA ?_
           simp only [pq, reduceCtorEq]
           exact ZK (key := 1000016) (kq := ⟨[11, 49, 50, 51], [71], []⟩) rfl rfl rfl (by simp [und, List.replicate, c44, c44M, c45, c46, c47, c48, c56, c56M, c79, c79M, c81, eq_true c91]) (J90 p27 hr78)
          ·skip
           rw [if_pos] at hr78
           rotate_left
           ·simp [c44, c44M, c45, c46, c47, c48, c56, c56M, c79, c79M, c81, c91]
           refine Yo (by simp [bV, c44, c44M, c45, c46, c47, c48, c56, c56M, c79, c79M, c81, c91]) ?_
           obtain ⟨_, u92, hr78⟩ := bs hr78
           have u92_0 := Zp u92
           have n1_u92_0 : (p27.length + 1) * 8 ≤ 140737488355328 := by omega
           have n2_u92_0 : p27.length + 1 ≤ 9223372036854775807 := by omega
           refine ZA rfl (by simp [n1_u92_0, n2_u92_0, c44, c44M, c45, c46, c47, c48, c56, c56M, c79, c79M, c81, c91]; rfl) ?_
           simp only [pq, reduceCtorEq]
           exact ZK (key := 1000016) (kq := ⟨[11, 49, 50, 51], [71], []⟩) rfl rfl rfl (by simp [und, List.replicate, c44, c44M, c45, c46, c47, c48, c56, c56M, c79, c79M, c81, c91]) (J90 (p27 ++ [x80]) hr78)
       ·skip
        have c79N := c79
        try simp at c79N
        first | have c79M : (_ = _) = True := eq_true c79N | have c79M := c79N
        rw [if_neg] at hr78
        rotate_left
        ·simp [c44, c44M, c45, c46, c47, c48, c56, c56M, c79, c79M]
        refine Zg (by simp [bV, c44, c44M, c45, c46, c47, c48, c56, c56M, c79, c79M]) ?_
        refine Zo ?_
        obtain ⟨r93, q93, rfl⟩ := ms hr78
        simp only [pq, reduceCtorEq]
        rintro rfl
        try simp only [pq, reduceCtorEq]
        unfold ZcY at q93
        refine Za rfl (by simp [c44, c44M, c45, c46, c47, c48, c56, c56M, c79, c79M]; rfl) ?_
        refine Zx ?_
        obtain rfl := Option.some.inj q93
        simp [Zn, c44, c44M, c45, c46, c47, c48, c56, c56M, c79, c79M, c44N, c56N, c79N]
end Go.Proofs.Ytmjbklblgpnagaa
