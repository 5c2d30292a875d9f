import Derived.Test.YtmjbklblgpnagaaLfK
import Derived.Test.YtmjbklblgpnagaaCode
import Derived.Test.YtmjbklblgpnagaaBl
namespace Go.Proofs.Ytmjbklblgpnagaa
open Go.RowKit
open Go.Av
open Go.Lc
set_option maxRecDepth 100000
set_option linter.unusedSimpArgs false
set_option linter.unusedVariables false
set_option maxHeartbeats 4000000
variable {G : Glob}
def kp28 : Keep := fun i => if i = 9 then ⟨[1, 2, 6, 8, 9], [6, 8, 58], [(8, some 0, 58, 0), (8, some 0, 58, 1)]⟩ else if i = 14 then ⟨[1, 6, 8, 10], [6, 8, 73], [(8, some 0, 73, 0), (8, some 0, 73, 1)]⟩ else ⟨[], [], []⟩
theorem w28 {T : Tab} (hO : T.own = fun d => if d = 58 then [[1]] else if d = 60 then [[1]] else if d = 73 then [[1]] else []) (hT44 : T 44 = some G44) (hT45 : T 45 = some G45) (hT46 : T 46 = some G46_13) (a0 : Tapi_Bits) (a1 : Int) (a2 : Int) (x : Tapi_Bits × Int) (hr : Xq a0 a1 a2 = some x) : ∃ kp fl n, ZI tt T G kp fl n Try.f28 (E28 (a0, a1, a2)) = some (R28 (a0, a1, a2) x) := by
 simp only [E28, R28]
 refine fnE (kp := kp28) (w := false) body28 (by simp) ?_
 unfold c28
 rw [Try.ntmps28]
 unfold Xq at hr
 refine Za rfl (by simp []; rfl) ?_
 refine Zk ?_
 obtain ⟨y32, hy32, hr⟩ := bs hr
 have ehy32 := ZiT hy32
 simp only [E44, R44, nf, nfs] at ehy32
 refine Za rfl (by simp [hO, hT44, ehy32]; rfl) ?_
 by_cases c33 : y32 = true
 ·skip
  rw [if_neg (not_not_intro c33)] at hr
  refine YI (by simp [bV, c33]) ?_
  by_cases c34 : a2 < 0
  ·skip
   refine Za rfl (by simp [c33, c34]; rfl) ?_
   rw [if_pos] at hr
   rotate_left
   ·simp [c33, c34]
   refine Yo (by simp [bV, c33, c34]) ?_
   refine Za rfl (by simp [c33, c34]; rfl) ?_
   refine Zx ?_
   obtain rfl := Option.some.inj hr
   simp [Zn, c33, c34]
  ·skip
   refine Za rfl (by simp [c33, c34]; rfl) ?_
   by_cases c35 : 32 < a2
   ·skip
    rw [if_pos] at hr
    rotate_left
    ·simp [c33, c34, c35]
    refine Yo (by simp [bV, c33, c34, c35]) ?_
    refine Za rfl (by simp [c33, c34, c35]; rfl) ?_
    refine Zx ?_
    obtain rfl := Option.some.inj hr
    simp [Zn, c33, c34, c35]
   ·skip
    rw [if_neg] at hr
    rotate_left
    ·simp [c33, c34, c35]
    refine YI (by simp [bV, c33, c34, c35]) ?_
    obtain ⟨_, u36, hr⟩ := bs hr
    have u36_0 := Zp u36
    by_cases c37 : 65536 < (a1).fdiv (2 ^ (min (a2).toNat 64))
    ·skip
     have c37N := c37
     try simp at c37N
     first | have c37M : (_ = _) = True := eq_true c37N | have c37M := c37N
     rw [if_pos] at hr
     rotate_left
     ·simp [c33, c34, c35, c37, c37M]
     obtain ⟨z38, hz38, hr⟩ := bs hr
     obtain rfl := Option.some.inj hz38
     refine Zt rfl (by simp [u36_0, c33, c34, c35, c37, c37M]; first | exact ⟨rfl, rfl⟩ | rfl) (by kernel_rfl) ?_
     rw [if_pos] at hr
     rotate_left
     ·simp [c33, c34, c35, c37, c37M]
     refine Yo (by simp [bV, c33, c34, c35, c37, c37M]) ?_
     refine Za rfl (by simp [c33, c34, c35, c37, c37M]; rfl) ?_
     refine Zx ?_
     obtain rfl := Option.some.inj hr
     simp [Zn, c33, c34, c35, c37, c37M, c37N]
    ·skip
     have c37N := c37
     try simp at c37N
     first | have c37M : (_ = _) = True := eq_true c37N | have c37M := c37N
     rw [if_neg] at hr
     rotate_left
     ·simp [c33, c34, c35, c37, c37M]
     obtain ⟨z39, hz39, hr⟩ := bs hr
     obtain ⟨_, u40, hz39⟩ := bs hz39
     have u40_0 := Zp u40
     obtain rfl := Option.some.inj hz39
     refine Zt rfl (by simp [u36_0, u40_0, c33, c34, c35, c37, c37M]; first | exact ⟨rfl, rfl⟩ | rfl) (by kernel_rfl) ?_
     by_cases c41 : 1600000 < IntKind.i64.wrap ((IntKind.i64.wrap ((IntKind.i64.wrap (a0.2 + (IntKind.i64.wrap ((a1).fdiv (2 ^ (min (a2).toNat 64)))))) + 1)) + a2)
     ·skip
      have c41N := c41
      try simp at c41N
      first | have c41M : (_ = _) = True := eq_true c41N | have c41M := c41N
      rw [if_pos] at hr
      rotate_left
      ·simp [c33, c34, c35, c37, c37M, c41, c41M]
      refine Yo (by simp [bV, c33, c34, c35, c37, c37M, c41, c41M]) ?_
      refine Za rfl (by simp [c33, c34, c35, c37, c37M, c41, c41M]; rfl) ?_
      refine Zx ?_
      obtain rfl := Option.some.inj hr
      simp [Zn, c33, c34, c35, c37, c37M, c41, c41M, c37N, c41N]
     ·skip
      have c41N := c41
      try simp at c41N
      first | have c41M : (_ = _) = True := eq_true c41N | have c41M := c41N
      rw [if_neg] at hr
      rotate_left
      ·simp [c33, c34, c35, c37, c37M, c41, c41M]
      refine YI (by simp [bV, c33, c34, c35, c37, c37M, c41, c41M]) ?_
      refine XA ?_
      simp only [pq, reduceCtorEq]
      obtain ⟨y42, hy42, hr⟩ := bs hr
      have ehy42 := Zoa hy42
      simp only [E45, R45, nf, nfs] at ehy42
      refine Zt rfl (by simp [hO, hT45, ehy42, c33, c34, c35, c37, c37M, c41, c41M]; first | exact ⟨rfl, rfl⟩ | rfl) (by kernel_rfl) ?_
      refine Zf ?_
      obtain ⟨_, u43, hr⟩ := bs hr
      have u43_0 := Zp u43
      refine Za rfl (by simp [u43_0, c33, c34, c35, c37, c37M, c41, c41M]; rfl) ?_
      refine Zk ?_
      refine ZU (kq := ⟨[1, 2, 6, 8, 9], [6, 8, 58], [(8, some 0, 58, 0), (8, some 0, 58, 1)]⟩) (H := fun (s : Int × Int × (List Int)) => match s with | (p12, p13, p14) => (⟨(und 1 ++ ([.one (.v (.int .u64 a1)), .one (.v (.int .i64 a2))] ++ (und 3 ++ ([.ptr 6 0 0 0 2] ++ (und 1 ++ ([.ptr 8 0 0 0 2, .one (.v (.int .u64 p12))] ++ (und 65)))))) : List PV), ([(6, ⟨0, 2, [[.slice .nil [], .v (.int .i64 0)]], false, false⟩), (8, ⟨0, 2, [[.ms 58 0 0 (p14.length) 1, .v (.int .i64 p13)]], false, false⟩), (58, ⟨0, 1, Zi .u8 p14, false, true⟩)] : Boxes)⟩ : ASt)) (by kernel_rfl) hr (by simp [und, List.replicate, c33, c34, c35, c37, c37M, c41, c41M]) ?_
      rintro ⟨p12, p13, p14⟩ x48r hr48
      simp only [Zap] at hr48
      unfold b28_1
      simp only [und, List.replicate, List.cons_append, List.nil_append]
      refine Zf ?_
      refine Za rfl (by simp [c33, c34, c35, c37, c37M, c41, c41M]; rfl) ?_
      by_cases c49 : 0 < p12
      ·skip
       rw [if_pos] at hr48
       rotate_left
       ·simp [c33, c34, c35, c37, c37M, c41, c41M, c49]
       refine Ze (by simp [bV, c33, c34, c35, c37, c37M, c41, c41M, c49]) ?_
       refine Zh ?_
       refine Zk ?_
       obtain ⟨y50, hy50, hr48⟩ := bs hr48
       have ehy50 := ZfN hy50
       simp only [Zcm, ZdR, nf, nfs] at ehy50
       refine ZA rfl (by simp [hO, hT46, ehy50, c33, c34, c35, c37, c37M, c41, c41M, c49]; rfl) ?_
       simp only [pq, reduceCtorEq]
       refine ZA rfl (by simp [c33, c34, c35, c37, c37M, c41, c41M, c49]; rfl) ?_
       obtain rfl := Option.some.inj hr48
       simp only [pq, reduceCtorEq]
       simp [und, List.replicate, Nat.add_assoc, c33, c34, c35, c37, c37M, c41, c41M, c49]
      ·skip
       rw [if_neg] at hr48
       rotate_left
       ·simp [c33, c34, c35, c37, c37M, c41, c41M, c49]
       refine Zg (by simp [bV, c33, c34, c35, c37, c37M, c41, c41M, c49]) ?_
       refine Zo ?_
       obtain ⟨r51, q51, rfl⟩ := ms hr48
       simp only [pq, reduceCtorEq]
       rintro rfl
       try simp only [pq, reduceCtorEq]
       unfold ZbW at q51
       obtain ⟨y52, hy52, q51⟩ := bs q51
       have ehy52 := ZfN hy52
       simp only [Zcm, ZdR, nf, nfs] at ehy52
       refine Za rfl (by simp [hO, hT46, ehy52, c33, c34, c35, c37, c37M, c41, c41M, c49]; rfl) ?_
       refine Zf ?_
       refine Za rfl (by simp [c33, c34, c35, c37, c37M, c41, c41M, c49]; rfl) ?_
       refine Zk ?_
       refine ZU (kq := ⟨[1, 6, 8, 10], [6, 8, 73], [(8, some 0, 73, 0), (8, some 0, 73, 1)]⟩) (H := fun (s : Int × Int × (List Int)) => match s with | (p24, p25, p26) => (⟨(und 1 ++ ([.one (.v (.int .u64 a1))] ++ (und 4 ++ ([.ptr 6 0 0 0 2] ++ (und 1 ++ ([.ptr 8 0 0 0 2] ++ (und 1 ++ ([.one (.v (.int .i64 p24))] ++ (und 64)))))))) : List PV), ([(6, ⟨0, 2, [[.slice .nil [], .v (.int .i64 0)]], false, false⟩), (8, ⟨0, 2, [[.ms 73 0 0 (p26.length) 1, .v (.int .i64 p25)]], false, false⟩), (73, ⟨0, 1, Zi .u8 p26, false, true⟩)] : Boxes)⟩ : ASt)) (by kernel_rfl) q51 (by simp [und, List.replicate, c33, c34, c35, c37, c37M, c41, c41M, c49]) ?_
       rintro ⟨p24, p25, p26⟩ x58r hr58
       simp only [XX] at hr58
       unfold b28_2
       simp only [und, List.replicate, List.cons_append, List.nil_append]
       refine Zf ?_
       refine Za rfl (by simp [c33, c34, c35, c37, c37M, c41, c41M, c49]; rfl) ?_
       by_cases c59 : 0 ≤ p24
       ·skip
        rw [if_pos] at hr58
        rotate_left
        ·simp [c33, c34, c35, c37, c37M, c41, c41M, c49, c59]
        refine Ze (by simp [bV, c33, c34, c35, c37, c37M, c41, c41M, c49, c59]) ?_
        refine Zh ?_
        refine Zk ?_
        obtain ⟨_, u60, hr58⟩ := bs hr58
        have u60_0 := Zp u60
        obtain ⟨y61, hy61, hr58⟩ := bs hr58
        have ehy61 := ZfN hy61
        simp only [Zcm, ZdR, nf, nfs] at ehy61
        refine Zct rfl (by simp [u60_0, hO, hT46, ehy61, c33, c34, c35, c37, c37M, c41, c41M, c49, c59]; first | exact ⟨rfl, rfl⟩ | rfl) (by kernel_rfl) ?_
        simp only [pq, reduceCtorEq]
        refine ZA rfl (by simp [c33, c34, c35, c37, c37M, c41, c41M, c49, c59]; rfl) ?_
        obtain rfl := Option.some.inj hr58
        simp only [pq, reduceCtorEq]
        simp [und, List.replicate, Nat.add_assoc, c33, c34, c35, c37, c37M, c41, c41M, c49, c59]
       ·skip
        rw [if_neg] at hr58
        rotate_left
        ·simp [c33, c34, c35, c37, c37M, c41, c41M, c49, c59]
        refine Zg (by simp [bV, c33, c34, c35, c37, c37M, c41, c41M, c49, c59]) ?_
        refine Zo ?_
        obtain ⟨r62, q62, rfl⟩ := ms hr58
        simp only [pq, reduceCtorEq]
        rintro rfl
        try simp only [pq, reduceCtorEq]
        unfold ZbV at q62
        refine Za rfl (by simp [c33, c34, c35, c37, c37M, c41, c41M, c49, c59]; rfl) ?_
        refine Zx ?_
        obtain rfl := Option.some.inj q62
        simp [Zn, c33, c34, c35, c37, c37M, c41, c41M, c49, c59, c37N, c41N]
 ·skip
  rw [if_pos c33] at hr
  refine Yo (by simp [bV, c33]) ?_
  refine Za rfl (by simp [c33]; rfl) ?_
  refine Zx ?_
  obtain rfl := Option.some.inj hr
  simp [Zn, c33]
def kp14 : Keep := fun i => if i = 6 then ⟨[0, 1, 4, 6], [4], []⟩ else if i = 13 then ⟨[0, 1, 4, 7, 8, 41, 42, 43], [4, 7], [(7, some 0, 0, 0)]⟩ else ⟨[], [], []⟩
theorem w14 {T : Tab} (hO : T.own = fun _ => []) (hT28 : T 28 = some G28) (a0 : (List Int)) (a1 : Int) (x : Tapi_Filter × Int) (hr : X7 a0 a1 = some x) : ∃ kp fl n, ZI tt T G kp fl n Try.f14 (E14 (a0, a1)) = some (R14 (a0, a1) x) := by
 simp only [E14, R14]
 refine fnE (kp := kp14) (w := false) body14 (by simp) ?_
 unfold c14
 rw [Try.ntmps14]
 unfold X7 at hr
 refine Za rfl (by simp []; rfl) ?_
 refine Zf ?_
 refine Za rfl (by simp []; rfl) ?_
 by_cases c27 : 4096 < (a0.length : Int)
 ·skip
  have c27N := c27
  try simp at c27N
  first | have c27M : (_ = _) = True := eq_true c27N | have c27M := c27N
  rw [if_pos c27] at hr
  refine Ze (by simp [bV, c27, c27M]) ?_
  refine Zf ?_
  refine Za rfl (by simp [c27, c27M]; rfl) ?_
  refine Zl ?_
  obtain rfl := Option.some.inj hr
  simp [Zn, c27, c27M, c27N]
 ·skip
  have c27N := c27
  try simp at c27N
  first | have c27M : (_ = _) = True := eq_true c27N | have c27M := c27N
  rw [if_neg c27] at hr
  refine Zg (by simp [bV, c27, c27M]) ?_
  refine Zh ?_
  refine Zf ?_
  by_cases c28 : a1 < 0
  ·skip
   refine Za rfl (by simp [c27, c27M, c28]; rfl) ?_
   rw [if_pos] at hr
   rotate_left
   ·simp [c27, c27M, c28]
   refine Ze (by simp [bV, c27, c27M, c28]) ?_
   refine Zf ?_
   refine Za rfl (by simp [c27, c27M, c28]; rfl) ?_
   refine Zl ?_
   obtain rfl := Option.some.inj hr
   simp [Zn, c27, c27M, c28, c27N]
  ·skip
   refine Za rfl (by simp [c27, c27M, c28]; rfl) ?_
   by_cases c29 : 32 < a1
   ·skip
    rw [if_pos] at hr
    rotate_left
    ·simp [c27, c27M, c28, c29]
    refine Ze (by simp [bV, c27, c27M, c28, c29]) ?_
    refine Zf ?_
    refine Za rfl (by simp [c27, c27M, c28, c29]; rfl) ?_
    refine Zl ?_
    obtain rfl := Option.some.inj hr
    simp [Zn, c27, c27M, c28, c29, c27N]
   ·skip
    rw [if_neg] at hr
    rotate_left
    ·simp [c27, c27M, c28, c29]
    refine Zg (by simp [bV, c27, c27M, c28, c29]) ?_
    refine Zh ?_
    refine Zf ?_
    refine Za rfl (by simp [c27, c27M, c28, c29]; rfl) ?_
    refine Zk ?_
    refine ZU (kq := ⟨[0, 1, 4, 6], [4], []⟩) (H := fun (s : Int) => match s with | p6 => (⟨([.one (.slice .no (Zi .u64 a0)), .one (.v (.int .i64 a1))] ++ (und 2 ++ ([.ptr 4 0 0 0 2] ++ (und 1 ++ ([.one (.v (.int .i64 p6))] ++ (und 61))))) : List PV), ([(4, ⟨0, 2, [[.v (.int .i64 0), .slice .nil []]], false, false⟩)] : Boxes)⟩ : ASt)) (by kernel_rfl) hr (by simp [und, List.replicate, c27, c27M, c28, c29]) ?_
    rintro p6 x36r hr36
    simp only [ZaH] at hr36
    unfold b14_1
    simp only [und, List.replicate, List.cons_append, List.nil_append]
    refine Zf ?_
    refine Za rfl (by simp [c27, c27M, c28, c29]; rfl) ?_
    by_cases c37 : p6 < (a0.length : Int)
    ·skip
     have c37N := c37
     try simp at c37N
     first | have c37M : (_ = _) = True := eq_true c37N | have c37M := c37N
     rw [if_pos] at hr36
     rotate_left
     ·simp [c27, c27M, c28, c29, c37, c37M]
     refine Ze (by simp [bV, c27, c27M, c28, c29, c37, c37M]) ?_
     refine Zh ?_
     refine Zk ?_
     obtain ⟨x38, hx38, hr36⟩ := bs hr36
     obtain ⟨hx38a, hx38b⟩ := Y8 hx38
     have hx38c := Zq hx38b
     obtain ⟨x39, hx39, hr36⟩ := bs hr36
     obtain ⟨hx39a, hx39b⟩ := Y8 hx39
     have hx39c := Zq hx39b
     refine Zt rfl (by simp [hx38a, hx38b, hx38c, hx39a, hx39b, hx39c, c27, c27M, c28, c29, c37, c37M]; first | exact ⟨rfl, rfl⟩ | rfl) (by kernel_rfl) ?_
     by_cases c40 : x39 < x38
     ·skip
      rw [if_pos c40] at hr36
      refine Yo (by simp [bV, c27, c27M, c28, c29, c37, c37M, c40]) ?_
      refine Za rfl (by simp [c27, c27M, c28, c29, c37, c37M, c40]; rfl) ?_
      refine Zx ?_
      obtain rfl := Option.some.inj hr36
      simp only [pq, reduceCtorEq]
      rintro rfl
      simp [Zn, c27, c27M, c28, c29, c37, c37M, c40, c27N, c37N]
     ·skip
      rw [if_neg c40] at hr36
      refine YI (by simp [bV, c27, c27M, c28, c29, c37, c37M, c40]) ?_
      refine XA ?_
      simp only [pq, reduceCtorEq]
      refine ZA rfl (by simp [c27, c27M, c28, c29, c37, c37M, c40]; rfl) ?_
      obtain rfl := Option.some.inj hr36
      simp only [pq, reduceCtorEq]
      simp [und, List.replicate, Nat.add_assoc, c27, c27M, c28, c29, c37, c37M, c40]
    ·skip
     have c37N := c37
     try simp at c37N
     first | have c37M : (_ = _) = True := eq_true c37N | have c37M := c37N
     rw [if_neg] at hr36
     rotate_left
     ·simp [c27, c27M, c28, c29, c37, c37M]
     refine Zg (by simp [bV, c27, c27M, c28, c29, c37, c37M]) ?_
     refine Zo ?_
     obtain ⟨r41, q41, rfl⟩ := ms hr36
     simp only [pq, reduceCtorEq]
     rintro rfl
     try simp only [pq, reduceCtorEq]
     unfold ZcX at q41
     refine Za rfl (by simp [c27, c27M, c28, c29, c37, c37M]; rfl) ?_
     refine Za rfl (by simp [c27, c27M, c28, c29, c37, c37M]; rfl) ?_
     refine Zf ?_
     refine Za rfl (by simp [c27, c27M, c28, c29, c37, c37M]; rfl) ?_
     refine Zk ?_
     refine ZU (kq := ⟨[0, 1, 4, 7, 8, 41, 42, 43], [4, 7], [(7, some 0, 0, 0)]⟩) (H := fun (s : Int × Int × (List Int) × Int) => match s with | (p17, p18, p19, p20) => (⟨([.one (.slice .no (Zi .u64 a0)), .one (.v (.int .i64 a1))] ++ (und 2 ++ ([.ptr 4 0 0 0 2] ++ (und 2 ++ ([.ptr 7 0 0 0 2, .one (.v (.int .u64 p17))] ++ (und 32 ++ ([.one (.slice .no (Zi .u64 a0)), .one (.v (.int .i64 (a0.length : Int))), .one (.v (.int .i64 p18))] ++ (und 24))))))) : List PV), ([(4, ⟨0, 2, [[.v (.int .i64 0), .slice .nil []]], false, false⟩), (7, ⟨0, 2, [[.slice .no (Zi .u8 p19), .v (.int .i64 p20)]], false, false⟩)] : Boxes)⟩ : ASt)) (by kernel_rfl) q41 (by simp [und, List.replicate, c27, c27M, c28, c29, c37, c37M]) ?_
     rintro ⟨p17, p18, p19, p20⟩ x48r hr48
     simp only [ZbX] at hr48
     unfold b14_2
     simp only [und, List.replicate, List.cons_append, List.nil_append]
     refine Za rfl (by simp [c27, c27M, c28, c29, c37, c37M]; rfl) ?_
     by_cases c49 : p18 < (a0.length : Int)
     ·skip
      have c49N := c49
      try simp at c49N
      first | have c49M : (_ = _) = True := eq_true c49N | have c49M := c49N
      rw [if_pos] at hr48
      rotate_left
      ·simp [c27, c27M, c28, c29, c37, c37M, c49, c49M]
      refine Ze (by simp [bV, c27, c27M, c28, c29, c37, c37M, c49, c49M]) ?_
      refine Zh ?_
      refine Zk ?_
      obtain ⟨x50, hx50, hr48⟩ := bs hr48
      obtain ⟨hx50a, hx50b⟩ := Y8 hx50
      have hx50c := Zq hx50b
      refine Za rfl (by simp [hx50a, hx50b, hx50c, c27, c27M, c28, c29, c37, c37M, c49, c49M]; rfl) ?_
      obtain ⟨y51, hy51, hr48⟩ := bs hr48
      have ehy51 := Zob hy51
      simp only [E28, R28, nf, nfs] at ehy51
      refine Za rfl (by simp [hO, hT28, ehy51, c27, c27M, c28, c29, c37, c37M, c49, c49M]; rfl) ?_
      refine Zf ?_
      refine Za rfl (by simp [c27, c27M, c28, c29, c37, c37M, c49, c49M]; rfl) ?_
      by_cases c52 : y51.2 = 0
      ·skip
       rw [if_neg (not_not_intro c52)] at hr48
       refine Zg (by simp [bV, c27, c27M, c28, c29, c37, c37M, c49, c49M, eq_true c52]) ?_
       refine Zh ?_
       refine ZA rfl (by simp [c27, c27M, c28, c29, c37, c37M, c49, c49M, eq_true c52]; rfl) ?_
       simp only [pq, reduceCtorEq]
       refine ZA rfl (by simp [c27, c27M, c28, c29, c37, c37M, c49, c49M, eq_true c52]; rfl) ?_
       obtain rfl := Option.some.inj hr48
       simp only [pq, reduceCtorEq]
       simp [und, List.replicate, Nat.add_assoc, c27, c27M, c28, c29, c37, c37M, c49, c49M, eq_true c52]
      ·skip
       rw [if_pos c52] at hr48
       refine Ze (by simp [bV, c27, c27M, c28, c29, c37, c37M, c49, c49M, c52]) ?_
       refine Zf ?_
       refine Za rfl (by simp [c27, c27M, c28, c29, c37, c37M, c49, c49M, c52]; rfl) ?_
       refine Zl ?_
       obtain rfl := Option.some.inj hr48
       simp only [pq, reduceCtorEq]
       rintro rfl
       simp [Zn, c27, c27M, c28, c29, c37, c37M, c49, c49M, c52, c27N, c37N, c49N]
     ·skip
      have c49N := c49
      try simp at c49N
      first | have c49M : (_ = _) = True := eq_true c49N | have c49M := c49N
      rw [if_neg] at hr48
      rotate_left
      ·simp [c27, c27M, c28, c29, c37, c37M, c49, c49M]
      refine Zg (by simp [bV, c27, c27M, c28, c29, c37, c37M, c49, c49M]) ?_
      refine Zo ?_
      obtain ⟨r53, q53, rfl⟩ := ms hr48
      simp only [pq, reduceCtorEq]
      rintro rfl
      try simp only [pq, reduceCtorEq]
      unfold ZcW at q53
      refine Za rfl (by simp [c27, c27M, c28, c29, c37, c37M, c49, c49M]; rfl) ?_
      refine Zx ?_
      obtain rfl := Option.some.inj q53
      simp [Zn, c27, c27M, c28, c29, c37, c37M, c49, c49M, c27N, c37N, c49N]
def kp29 : Keep := fun i => ⟨[], [], []⟩
theorem w29 {T : Tab} (a0 : (List Int)) (a1 : (List Int)) (x : Bool) (hr : Zbi a0 a1 = some x) : ∃ kp fl n, ZI tt T G kp fl n Try.f29 (E29 (a0, a1)) = some (R29 (a0, a1) x) := by
 simp only [E29, R29]
 refine fnE (kp := kp29) (w := false) body29 (by simp) ?_
 unfold c29
 rw [Try.ntmps29]
 unfold Zbi at hr
 refine Za rfl (by simp []; rfl) ?_
 refine Za rfl (by simp []; rfl) ?_
 refine Zx ?_
 obtain rfl := Option.some.inj hr
 simp [Zn, ]
def kp31 : Keep := fun i => if i = 3 then ⟨[0, 3, 9, 10, 11], [36], [(3, none, 36, 1)]⟩ else if i = 7 then ⟨[0, 3, 5, 6, 9, 10, 11, 18, 19, 20], [36], []⟩ else if i = 1000013 then ⟨[0, 3, 9, 10, 11], [36], []⟩ else ⟨[], [], []⟩
theorem w31 {T : Tab} (hO : T.own = fun _ => []) (hT29 : T 29 = some G29) (a0 : (List (List Int))) (x : (List (List Int))) (hr : XM a0 = some x) : ∃ kp fl n, ZI tt T G kp fl n Try.f31 (E31 a0) = some (R31 a0 x) := by
 simp only [E31, R31]
 refine fnE (kp := kp31) (w := true) body31 (by simp) ?_
 unfold c31
 rw [Try.ntmps31]
 unfold XM at hr
 refine Za rfl (by simp []; rfl) ?_
 refine Za rfl (by simp []; rfl) ?_
 refine Zf ?_
 refine Za rfl (by simp []; rfl) ?_
 refine Zk ?_
 refine ZU (kq := ⟨[0, 3, 9, 10, 11], [36], [(3, none, 36, 1)]⟩) (H := fun (s : Int × (List (List Int))) => match s with | (p34, p35) => (⟨([.one (.slice .no (List.map Ym a0))] ++ (und 2 ++ ([.one (.ms 36 0 0 (p35.length) 1)] ++ (und 5 ++ ([.one (.slice .no (List.map Ym a0)), .one (.v (.int .i64 (a0.length : Int))), .one (.v (.int .i64 p34))] ++ (und 27))))) : List PV), ([(36, ⟨0, 1, List.map Ym p35, false, true⟩)] : Boxes)⟩ : ASt)) (by kernel_rfl) hr (by simp [und, List.replicate, ]) ?_
 rintro ⟨p34, p35⟩ x100r hr100
 simp only [ZaD] at hr100
 unfold b31_1
 simp only [und, List.replicate, List.cons_append, List.nil_append]
 refine Za rfl (by simp []; rfl) ?_
 by_cases c101 : p34 < (a0.length : Int)
 ·skip
  have c101N := c101
  try simp at c101N
  first | have c101M : (_ = _) = True := eq_true c101N | have c101M := c101N
  rw [if_pos] at hr100
  rotate_left
  ·simp [c101, c101M]
  refine Ze (by simp [bV, c101, c101M]) ?_
  refine Zh ?_
  refine Zk ?_
  obtain ⟨x102, hx102, hr100⟩ := bs hr100
  obtain ⟨hx102a, hx102b⟩ := Y8 hx102
  have hx102c := Zq hx102b
  refine Za rfl (by simp [hx102a, hx102b, hx102c, c101, c101M]; rfl) ?_
  refine Za rfl (by simp [c101, c101M]; rfl) ?_
  refine Zf ?_
  obtain ⟨_, u103, hr100⟩ := bs hr100
  obtain ⟨u103_0, u103_1⟩ := Zp u103
  have sf104 : (p34).toNat ≤ a0.length := by omega
  have sf105 : 0 ≤ p34 := by omega
  refine Za rfl (by simp [u103_0, u103_1, sf104, sf105, c101, c101M]; rfl) ?_
  refine Zk ?_
  refine ZU (kq := ⟨[0, 3, 5, 6, 9, 10, 11, 18, 19, 20], [36], []⟩) (H := fun (s : Bool × Int) => match s with | (p61, p62) => (⟨([.one (.slice .no (List.map Ym a0))] ++ (und 2 ++ ([.one (.ms 36 0 0 (p35.length) 1)] ++ (und 1 ++ ([.one (.slice .no (Zi .u8 x102)), .one (.v (.bool p61))] ++ (und 2 ++ ([.one (.slice .no (List.map Ym a0)), .one (.v (.int .i64 (a0.length : Int))), .one (.v (.int .i64 p34))] ++ (und 6 ++ ([.one (.slice .no (List.map Ym ((a0).take ((p34).toNat)))), .one (.v (.int .i64 (((a0).take ((p34).toNat)).length : Int))), .one (.v (.int .i64 p62))] ++ (und 18))))))))) : List PV), ([(36, ⟨0, 1, List.map Ym p35, false, true⟩)] : Boxes)⟩ : ASt)) (by kernel_rfl) hr100 (by simp [und, List.replicate, sf104, sf105, c101, c101M]) ?_
  rintro ⟨p61, p62⟩ x114r hr114
  simp only [ZaC] at hr114
  unfold b31_2
  simp only [und, List.replicate, List.cons_append, List.nil_append]
  refine Za rfl (by simp [c101, c101M]; rfl) ?_
  by_cases c115 : p62 < (((a0).take ((p34).toNat)).length : Int)
  ·skip
   have c115N := c115
   try simp at c115N
   first | have c115M : (_ = _) = True := eq_true c115N | have c115M := c115N
   rw [if_pos] at hr114
   rotate_left
   ·simp [c101, c101M, c115, c115M]
   refine Ze (by simp [bV, c101, c101M, c115, c115M]) ?_
   refine Zh ?_
   refine Zk ?_
   obtain ⟨x116, hx116, hr114⟩ := bs hr114
   obtain ⟨hx116a, hx116b⟩ := Y8 hx116
   have hx116c := Zq hx116b
   have hx116t := Zma hx116b
   have hx116u := Zq hx116t
   refine Za rfl (by simp [hx116a, hx116b, hx116c, hx116t, hx116u, c101, c101M, c115, c115M]; rfl) ?_
   by_cases c117 : p61 = true
   ·skip
    rw [if_pos] at hr114
    rotate_left
    ·simp [c101, c101M, c115, c115M, c117]
    obtain ⟨z118, hz118, hr114⟩ := bs hr114
    obtain rfl := Option.some.inj hz118
    refine ZA rfl (by simp [c101, c101M, c115, c115M, c117]; rfl) ?_
    simp only [pq, reduceCtorEq]
    refine ZA rfl (by simp [c101, c101M, c115, c115M, c117]; rfl) ?_
    obtain rfl := Option.some.inj hr114
    simp only [pq, reduceCtorEq]
    simp [und, List.replicate, Nat.add_assoc, c101, c101M, c115, c115M, c117]
   ·skip
    rw [if_neg] at hr114
    rotate_left
    ·simp [c101, c101M, c115, c115M, c117]
    obtain ⟨z119, hz119, hr114⟩ := bs hr114
    obtain ⟨y120, hy120, hz119⟩ := bs hz119
    have ehy120 := Zod hy120
    simp only [E29, R29, nf, nfs] at ehy120
    obtain rfl := Option.some.inj hz119
    refine ZA rfl (by simp [hO, hT29, ehy120, c101, c101M, c115, c115M, c117]; rfl) ?_
    simp only [pq, reduceCtorEq]
    refine ZA rfl (by simp [c101, c101M, c115, c115M, c117]; rfl) ?_
    obtain rfl := Option.some.inj hr114
    simp only [pq, reduceCtorEq]
    simp [und, List.replicate, Nat.add_assoc, c101, c101M, c115, c115M, c117]
  ·skip
   have c115N := c115
   try simp at c115N
   first | have c115M : (_ = _) = True := eq_true c115N | have c115M := c115N
   rw [if_neg] at hr114
   rotate_left
   ·simp [c101, c101M, c115, c115M]
   refine Zg (by simp [bV, c101, c101M, c115, c115M]) ?_
   refine Zo ?_
   obtain ⟨r121, q121, rfl⟩ := ms hr114
   simp only [pq, reduceCtorEq]
   rintro rfl
   try simp only [pq, reduceCtorEq]
   unfold Zcc at q121
   refine Za rfl (by simp [c101, c101M, c115, c115M]; rfl) ?_
   refine ZbR q121 (.normal) (fun (s : (List (List Int))) => match s with | p67 => (⟨([.one (.slice .no (List.map Ym a0))] ++ (und 2 ++ ([.one (.ms 36 0 0 (p67.length) 1)] ++ (und 5 ++ ([.one (.slice .no (List.map Ym a0)), .one (.v (.int .i64 (a0.length : Int))), .one (.v (.int .i64 p34))] ++ (und 27))))) : List PV), ([(36, ⟨0, 1, List.map Ym p67, false, true⟩)] : Boxes)⟩ : ASt)) (fun (s : (List (List Int))) => match s with | p67 => X3 p34 p67) ?_ ?_
   ·skip
    rintro p67 hk124
    change X3 p34 p67 = _ at hk124
    simp only [pq, reduceCtorEq]
    simp only [und, List.replicate, List.cons_append, List.nil_append]
    unfold X3 at hk124
    refine ZbH rfl (kq := ⟨[0, 3, 9, 10, 11], [36], []⟩) rfl (by simp [Ys, c101, c101M, c115, c115M]; rfl) (by simp [c101, c101M, c115, c115M]; rfl) ?_
    obtain rfl := Option.some.inj hk124
    simp only [pq, reduceCtorEq]
    simp [und, List.replicate, Nat.add_assoc, c101, c101M, c115, c115M]
   ·skip
    intro J124
    simp only [pq, reduceCtorEq] at J124
    by_cases c125 : p61 = true
    ·skip
     rw [if_neg (not_not_intro c125)] at q121
     refine YI (by simp [bV, c101, c101M, c115, c115M, c125]) ?_
     refine XA ?_
     simp only [pq, reduceCtorEq]
     exact ZK (key := 1000013) (kq := ⟨[0, 3, 9, 10, 11], [36], []⟩) rfl rfl rfl (by simp [und, List.replicate, c101, c101M, c115, c115M, c125]) (J124 p35 q121)
    ·skip
     rw [if_pos c125] at q121
     refine Yo (by simp [bV, c101, c101M, c115, c115M, c125]) ?_
     obtain ⟨_, u126, q121⟩ := bs q121
     have u126_0 := Zp u126
     have n1_u126_0 : (p35.length + 1) * 24 ≤ 140737488355328 := by omega
     have n2_u126_0 : p35.length + 1 ≤ 9223372036854775807 := by omega
     refine ZA rfl (by simp [n1_u126_0, n2_u126_0, c101, c101M, c115, c115M, c125]; rfl) ?_
     simp only [pq, reduceCtorEq]
     exact ZK (key := 1000013) (kq := ⟨[0, 3, 9, 10, 11], [36], []⟩) rfl rfl rfl (by simp [und, List.replicate, c101, c101M, c115, c115M, c125]) (J124 (p35 ++ [x102]) q121)
 ·skip
  have c101N := c101
  try simp at c101N
  first | have c101M : (_ = _) = True := eq_true c101N | have c101M := c101N
  rw [if_neg] at hr100
  rotate_left
  ·simp [c101, c101M]
  refine Zg (by simp [bV, c101, c101M]) ?_
  refine Zo ?_
  obtain ⟨r127, q127, rfl⟩ := ms hr100
  simp only [pq, reduceCtorEq]
  rintro rfl
  try simp only [pq, reduceCtorEq]
  unfold Zcb at q127
  refine Za rfl (by simp [c101, c101M]; rfl) ?_
  refine Zx ?_
  obtain rfl := Option.some.inj q127
  simp [Zn, c101, c101M, c101N]
def kp50 : Keep := fun i => ⟨[], [], []⟩
theorem w50 {T : Tab} (hO : T.own = fun _ => []) (hT58 : T 58 = some G58) (a0 : Int) (a1 : Int) (x : Int) (hr : Zbp a0 a1 = some x) : ∃ kp fl n, ZI tt T G kp fl n Try.f50 (E50 (a0, a1)) = some (R50 (a0, a1) x) := by
 simp only [E50, R50]
 refine fnE (kp := kp50) (w := false) body50 (by simp) ?_
 unfold c50
 rw [Try.ntmps50]
 unfold Zbp at hr
 refine Za rfl (by simp []; rfl) ?_
 obtain ⟨y2, hy2, hr⟩ := bs hr
 have ehy2 := Zlm hy2
 simp only [E58, R58, nf, nfs] at ehy2
 refine Za rfl (by simp [hO, hT58, ehy2]; rfl) ?_
 refine Za rfl (by simp []; rfl) ?_
 refine Zx ?_
 obtain rfl := Option.some.inj hr
 simp [Zn, ]
end Go.Proofs.Ytmjbklblgpnagaa
