import Derived.Test.YtmjbklblgpnagaaLfK
import Derived.Test.YtmjbklblgpnagaaCode
import Derived.Test.YtmjbklblgpnagaaBl
namespace Go.Proofs.Ytmjbklblgpnagaa
open Go.RowKit
open Go.Av
open Go.Lc
set_option maxRecDepth 100000
set_option linter.unusedSimpArgs false
set_option linter.unusedVariables false
set_option maxHeartbeats 4000000
variable {G : Glob}
def kp75_9 : Keep := fun i => if i = 1000007 then ⟨[0, 1, 10, 11], [1000000], []⟩ else if i = 1000017 then ⟨[0, 1, 10, 11], [1000000], []⟩ else if i = 15 then ⟨[0, 1, 10, 11], [1000000], []⟩ else if i = 13 then ⟨[0, 1, 10, 11], [1000000], []⟩ else if i = 5 then ⟨[0, 1, 10, 11], [1000000], []⟩ else if i = 3 then ⟨[0, 1, 10, 11], [1000000], []⟩ else ⟨[], [], []⟩
theorem Zph {T : Tab} (hO : T.own = fun _ => []) (hT39 : T 39 = some G39) (a0 : (List Int)) (a1 : Int) (a2 : Int) (a3 : Int) (x : Int × Bool × (List Int)) (hr : Yc a0 a1 a2 a3 = some x) : ∃ kp fl n, ZI tt T G kp fl n Try.f75 (Zcf (a0, a1, a2, a3)) = some (Zdl (a0, a1, a2, a3) x) := by
 simp only [Zcf, Zdl]
 refine fnE (kp := kp75_9) (w := false) body75 (by simp) ?_
 unfold c75
 rw [Try.ntmps75]
 unfold Yc at hr
 refine Za rfl (by simp [-Zd, Zb]; rfl) ?_
 obtain ⟨j272, hj272, hr⟩ := bs hr
 obtain ⟨j272a, j272b, j272c⟩ := Zm hj272
 obtain ⟨x273, hx273, hr⟩ := bs hr
 have ghx273 := Zq hx273
 obtain ⟨j274, hj274, hr⟩ := bs hr
 obtain ⟨j274a, j274b, j274c⟩ := Zm hj274
 obtain ⟨x275, hx275, hr⟩ := bs hr
 have ghx275 := Zq hx275
 obtain ⟨j274a, j274b, j274c⟩ := Zm hj274
 obtain ⟨j276, hj276, hr⟩ := bs hr
 obtain ⟨j276a, j276b, j276c⟩ := Zm hj276
 try simp only [List.length_set] at j276c
 obtain rfl : j272 = j276 := j272b.symm.trans j276b
 refine Zt rfl (by simp [-Zd, Zb, j272a, j272b, j272c, hx273, ghx273, j274a, j274b, j274c, hx275, ghx275, j276a, j276b, j276c]; first | exact ⟨rfl, rfl⟩ | rfl) (by kernel_rfl) ?_
 refine Za rfl (by simp [-Zd, Zb]; rfl) ?_
 refine Zk ?_
 refine ZbR hr (.exit 0) (fun (s : Int) => match s with | p19 => (⟨([.one (.ms 1000000 0 0 ((((a0).set j274 x273).set j272 x275).length) 1), .one (.v (.int .i64 a1))] ++ (und 8 ++ ([.one (.v (.int .i64 p19)), .one (.v (.int .i64 (IntKind.i64.wrap (a2 - 1))))] ++ (und 156))) : List PV), ([(1000000, ⟨0, 1, Zi .u64 (((a0).set j274 x273).set j272 x275), false, true⟩)] : Boxes)⟩ : ASt)) (fun (s : Int) => match s with | p19 => YA p19 a0 j274 x273 j272 x275 a1 a2) ?_ ?_
 ·skip
  rintro p19 hk289
  change YA p19 a0 j274 x273 j272 x275 a1 a2 = _ at hk289
  simp only [pq, reduceCtorEq]
  simp only [und, List.replicate, List.cons_append, List.nil_append]
  unfold YA at hk289
  refine Zk ?_
  refine ZbR hk289 (.exit 2) (fun (s : Int) => match s with | p39 => (⟨([.one (.ms 1000000 0 0 ((((a0).set j274 x273).set j272 x275).length) 1), .one (.v (.int .i64 a1))] ++ (und 8 ++ ([.one (.v (.int .i64 p19)), .one (.v (.int .i64 p39))] ++ (und 156))) : List PV), ([(1000000, ⟨0, 1, Zi .u64 (((a0).set j274 x273).set j272 x275), false, true⟩)] : Boxes)⟩ : ASt)) (fun (s : Int) => match s with | p39 => Yz p39 p19 a0 j274 x273 j272 x275 a1) ?_ ?_
  ·skip
   rintro p39 hk302
   change Yz p39 p19 a0 j274 x273 j272 x275 a1 = _ at hk302
   simp only [pq, reduceCtorEq]
   simp only [und, List.replicate, List.cons_append, List.nil_append]
   unfold Yz at hk302
   refine Zf ?_
   refine Y6 rfl (kq := ⟨[0, 1, 10, 11], [1000000], []⟩) rfl (by simp [Ys, ]; rfl) (by simp [-Zd, Zb]; rfl) ?_
   by_cases c303 : p39 < p19
   ·skip
    rw [if_pos c303] at hk302
    refine Ze (by simp [-Zd, Zb, bV, c303]) ?_
    refine Zf ?_
    obtain ⟨j304, hj304, hk302⟩ := bs hk302
    obtain ⟨j304a, j304b, j304c⟩ := Zm hj304
    try simp only [List.length_set] at j304c
    obtain rfl : j274 = j304 := j274b.symm.trans j304b
    obtain ⟨x305, hx305, hk302⟩ := bs hk302
    have ghx305 := Zq hx305
    have mhx305 : (Zi .u64 (((a0).set j274 x273).set j272 x275))[j274]? = some [.v (.int .u64 x305)] := by rw [ZbK, hx305]; rfl
    simp only [nf] at mhx305
    have mghx305 := Zq mhx305
    obtain ⟨j306, hj306, hk302⟩ := bs hk302
    obtain ⟨j306a, j306b, j306c⟩ := Zm hj306
    try simp only [List.length_set] at j306c
    obtain ⟨x307, hx307, hk302⟩ := bs hk302
    have ghx307 := Zq hx307
    have mhx307 : (Zi .u64 (((a0).set j274 x273).set j272 x275))[j306]? = some [.v (.int .u64 x307)] := by rw [ZbK, hx307]; rfl
    simp only [nf] at mhx307
    have mghx307 := Zq mhx307
    obtain ⟨j306a, j306b, j306c⟩ := Zm hj306
    try simp only [List.length_set] at j306c
    obtain ⟨j308, hj308, hk302⟩ := bs hk302
    obtain ⟨j308a, j308b, j308c⟩ := Zm hj308
    try simp only [List.length_set] at j308c
    obtain rfl : j274 = j308 := j274b.symm.trans j308b
    refine Zt rfl (by simp [-Zd, Zb, j304a, j304b, j304c, j274a, j274b, j274c, hx305, ghx305, mhx305, mghx305, j306a, j306b, j306c, hx307, ghx307, mhx307, mghx307, j308a, j308b, j308c, c303]; first | exact ⟨rfl, rfl⟩ | rfl) (by kernel_rfl) ?_
    refine Zf ?_
    refine Za rfl (by simp [-Zd, Zb, c303]; rfl) ?_
    refine Zl ?_
    obtain ⟨_, u309, hk302⟩ := bs hk302
    have u309_0 := Zp u309
    obtain rfl := Option.some.inj hk302
    simp [-Zd, Zb, Zn, u309_0, c303]
   ·skip
    rw [if_neg c303] at hk302
    refine Zg (by simp [-Zd, Zb, bV, c303]) ?_
    refine Zh ?_
    obtain ⟨j310, hj310, hk302⟩ := bs hk302
    obtain ⟨j310a, j310b, j310c⟩ := Zm hj310
    try simp only [List.length_set] at j310c
    obtain ⟨x311, hx311, hk302⟩ := bs hk302
    have ghx311 := Zq hx311
    have mhx311 : (Zi .u64 (((a0).set j274 x273).set j272 x275))[j310]? = some [.v (.int .u64 x311)] := by rw [ZbK, hx311]; rfl
    simp only [nf] at mhx311
    have mghx311 := Zq mhx311
    obtain ⟨j312, hj312, hk302⟩ := bs hk302
    obtain ⟨j312a, j312b, j312c⟩ := Zm hj312
    try simp only [List.length_set] at j312c
    obtain ⟨x313, hx313, hk302⟩ := bs hk302
    have ghx313 := Zq hx313
    have mhx313 : (Zi .u64 (((a0).set j274 x273).set j272 x275))[j312]? = some [.v (.int .u64 x313)] := by rw [ZbK, hx313]; rfl
    simp only [nf] at mhx313
    have mghx313 := Zq mhx313
    obtain ⟨j312a, j312b, j312c⟩ := Zm hj312
    try simp only [List.length_set] at j312c
    obtain ⟨j314, hj314, hk302⟩ := bs hk302
    obtain ⟨j314a, j314b, j314c⟩ := Zm hj314
    try simp only [List.length_set] at j314c
    obtain rfl : j310 = j314 := j310b.symm.trans j314b
    refine Zt rfl (by simp [-Zd, Zb, j310a, j310b, j310c, hx311, ghx311, mhx311, mghx311, j312a, j312b, j312c, hx313, ghx313, mhx313, mghx313, j314a, j314b, j314c, c303]; first | exact ⟨rfl, rfl⟩ | rfl) (by kernel_rfl) ?_
    refine Za rfl (by simp [-Zd, Zb, c303]; rfl) ?_
    refine Za rfl (by simp [-Zd, Zb, c303]; rfl) ?_
    refine Zk ?_
    refine ZU (kq := ⟨[0, 1, 10, 11], [1000000], []⟩) (H := fun (s : Int × Int × (List Int)) => match s with | (p149, p150, p151) => (⟨([.one (.ms 1000000 0 0 (p151.length) 1), .one (.v (.int .i64 a1))] ++ (und 8 ++ ([.one (.v (.int .i64 p149)), .one (.v (.int .i64 p150))] ++ (und 156))) : List PV), ([(1000000, ⟨0, 1, Zi .u64 p151, false, true⟩)] : Boxes)⟩ : ASt)) (by kernel_rfl) hk302 (by simp [-Zd, Zb, und, List.replicate, c303]) ?_
    rintro ⟨p149, p150, p151⟩ x373r hr373
    simp only [Y2] at hr373
    unfold b75_3
    simp only [und, List.replicate, List.cons_append, List.nil_append]
    refine YT ?_
    refine Zk ?_
    refine ZbR hr373 (.exit 6) (fun (s : Int) => match s with | p216 => (⟨([.one (.ms 1000000 0 0 (p151.length) 1), .one (.v (.int .i64 a1))] ++ (und 8 ++ ([.one (.v (.int .i64 p216)), .one (.v (.int .i64 p150))] ++ (und 156))) : List PV), ([(1000000, ⟨0, 1, Zi .u64 p151, false, true⟩)] : Boxes)⟩ : ASt)) (fun (s : Int) => match s with | p216 => Yy p216 p151 a1 a0 p150) ?_ ?_
    ·skip
     rintro p216 hk386
     change Yy p216 p151 a1 a0 p150 = _ at hk386
     simp only [pq, reduceCtorEq]
     simp only [und, List.replicate, List.cons_append, List.nil_append]
     unfold Yy at hk386
     refine Zk ?_
     refine ZbR hk386 (.exit 8) (fun (s : Int) => match s with | p236 => (⟨([.one (.ms 1000000 0 0 (p151.length) 1), .one (.v (.int .i64 a1))] ++ (und 8 ++ ([.one (.v (.int .i64 p216)), .one (.v (.int .i64 p236))] ++ (und 156))) : List PV), ([(1000000, ⟨0, 1, Zi .u64 p151, false, true⟩)] : Boxes)⟩ : ASt)) (fun (s : Int) => match s with | p236 => Z0 p236 p216 p151 a1 a0) ?_ ?_
     ·skip
      rintro p236 hk399
      change Z0 p236 p216 p151 a1 a0 = _ at hk399
      simp only [pq, reduceCtorEq]
      simp only [und, List.replicate, List.cons_append, List.nil_append]
      unfold Z0 at hk399
      refine Zf ?_
      refine Y6 rfl (kq := ⟨[0, 1, 10, 11], [1000000], []⟩) rfl (by simp [-Zd, Zb, Ys, c303]; rfl) (by simp [-Zd, Zb, c303]; rfl) ?_
      by_cases c400 : p236 < p216
      ·skip
       rw [if_pos c400] at hk399
       refine Ze (by simp [-Zd, Zb, bV, c303, c400]) ?_
       refine Zo ?_
       obtain ⟨r401, q401, rfl⟩ := ms hk399
       simp only [pq, reduceCtorEq]
       rintro rfl
       try simp only [pq, reduceCtorEq]
       unfold Xi at q401
       obtain ⟨j402, hj402, q401⟩ := bs q401
       obtain ⟨j402a, j402b, j402c⟩ := Zm hj402
       obtain rfl : j274 = j402 := j274b.symm.trans j402b
       obtain ⟨x403, hx403, q401⟩ := bs q401
       have ghx403 := Zq hx403
       obtain ⟨j404, hj404, q401⟩ := bs q401
       obtain ⟨j404a, j404b, j404c⟩ := Zm hj404
       obtain ⟨x405, hx405, q401⟩ := bs q401
       have ghx405 := Zq hx405
       obtain ⟨j404a, j404b, j404c⟩ := Zm hj404
       obtain ⟨j406, hj406, q401⟩ := bs q401
       obtain ⟨j406a, j406b, j406c⟩ := Zm hj406
       try simp only [List.length_set] at j406c
       obtain rfl : j274 = j406 := j274b.symm.trans j406b
       refine Zt rfl (by simp [-Zd, Zb, j402a, j402b, j402c, j274a, j274b, j274c, hx403, ghx403, j404a, j404b, j404c, hx405, ghx405, j406a, j406b, j406c, c303, c400]; first | exact ⟨rfl, rfl⟩ | rfl) (by kernel_rfl) ?_
       refine Za rfl (by simp [-Zd, Zb, c303, c400]; rfl) ?_
       refine Zx ?_
       obtain ⟨_, u407, q401⟩ := bs q401
       have u407_0 := Zp u407
       obtain rfl := Option.some.inj q401
       simp [-Zd, Zb, Zn, u407_0, c303, c400]
      ·skip
       rw [if_neg c400] at hk399
       refine Zg (by simp [-Zd, Zb, bV, c303, c400]) ?_
       refine Zh ?_
       obtain ⟨j408, hj408, hk399⟩ := bs hk399
       obtain ⟨j408a, j408b, j408c⟩ := Zm hj408
       obtain ⟨x409, hx409, hk399⟩ := bs hk399
       have ghx409 := Zq hx409
       obtain ⟨j410, hj410, hk399⟩ := bs hk399
       obtain ⟨j410a, j410b, j410c⟩ := Zm hj410
       obtain ⟨x411, hx411, hk399⟩ := bs hk399
       have ghx411 := Zq hx411
       obtain ⟨j410a, j410b, j410c⟩ := Zm hj410
       obtain ⟨j412, hj412, hk399⟩ := bs hk399
       obtain ⟨j412a, j412b, j412c⟩ := Zm hj412
       try simp only [List.length_set] at j412c
       obtain rfl : j408 = j412 := j408b.symm.trans j412b
       refine Zt rfl (by simp [-Zd, Zb, j408a, j408b, j408c, hx409, ghx409, j410a, j410b, j410c, hx411, ghx411, j412a, j412b, j412c, c303, c400]; first | exact ⟨rfl, rfl⟩ | rfl) (by kernel_rfl) ?_
       refine Za rfl (by simp [-Zd, Zb, c303, c400]; rfl) ?_
       refine ZA rfl (by simp [-Zd, Zb, c303, c400]; rfl) ?_
       obtain rfl := Option.some.inj hk399
       simp only [pq, reduceCtorEq]
       simp [-Zd, Zb, und, List.replicate, Nat.add_assoc, c303, c400]
     ·skip
      intro J399
      simp only [pq, reduceCtorEq] at J399
      refine ZU (kq := ⟨[0, 1, 10, 11], [1000000], []⟩) (H := fun (s : Int) => match s with | p236 => (⟨([.one (.ms 1000000 0 0 (p151.length) 1), .one (.v (.int .i64 a1))] ++ (und 8 ++ ([.one (.v (.int .i64 p216)), .one (.v (.int .i64 p236))] ++ (und 156))) : List PV), ([(1000000, ⟨0, 1, Zi .u64 p151, false, true⟩)] : Boxes)⟩ : ASt)) (by kernel_rfl) hk386 (by simp [-Zd, Zb, und, List.replicate, c303]) ?_
      rintro p236 x413r hr413
      simp only [Y0] at hr413
      unfold b75_5
      simp only [und, List.replicate, List.cons_append, List.nil_append]
      refine Zf ?_
      by_cases c414 : p216 ≤ p236
      ·skip
       rw [if_pos] at hr413
       rotate_left
       ·simp [-Zd, Zb, c303, c414]
       obtain ⟨z415, hz415, hr413⟩ := bs hr413
       obtain ⟨j416, hj416, hz415⟩ := bs hz415
       obtain ⟨j416a, j416b, j416c⟩ := Zm hj416
       obtain ⟨x417, hx417, hz415⟩ := bs hz415
       have ghx417 := Zq hx417
       obtain ⟨j418, hj418, hz415⟩ := bs hz415
       obtain ⟨j418a, j418b, j418c⟩ := Zm hj418
       obtain rfl : j274 = j418 := j274b.symm.trans j418b
       obtain ⟨x419, hx419, hz415⟩ := bs hz415
       have ghx419 := Zq hx419
       obtain ⟨y420, hy420, hz415⟩ := bs hz415
       have ehy420 := ZaE hy420
       simp only [E39, R39, nf, nfs] at ehy420
       try simp only [Zb] at ehy420
       obtain rfl := Option.some.inj hz415
       refine Zt rfl (by simp [-Zd, Zb, j416a, j416b, j416c, hx417, ghx417, j418a, j418b, j418c, j274a, j274b, j274c, hx419, ghx419, hO, hT39, ehy420, c303, c414]; first | exact ⟨rfl, rfl⟩ | rfl) (by kernel_rfl) ?_
       by_cases c421 : y420 = true
       ·skip
        rw [if_neg] at hr413
        rotate_left
        ·simp [-Zd, Zb, c303, c414, c421]
        refine Zg (by simp [-Zd, Zb, bV, c303, c414, c421]) ?_
        refine Zo ?_
        obtain ⟨r422, q422, rfl⟩ := ms hr413
        simp only [pq, reduceCtorEq]
        rintro rfl
        try simp only [pq, reduceCtorEq]
        exact ZK (key := 1000017) (kq := ⟨[0, 1, 10, 11], [1000000], []⟩) rfl rfl rfl (by simp [-Zd, Zb, und, List.replicate, c303, c414, c421]) (J399 p236 q422)
       ·skip
        rw [if_pos] at hr413
        rotate_left
        ·simp [-Zd, Zb, c303, c414, c421]
        refine Ze (by simp [-Zd, Zb, bV, c303, c414, c421]) ?_
        refine Zh ?_
        refine YT ?_
        refine ZA rfl (by simp [-Zd, Zb, c303, c414, c421]; rfl) ?_
        obtain rfl := Option.some.inj hr413
        simp only [pq, reduceCtorEq]
        simp [-Zd, Zb, und, List.replicate, Nat.add_assoc, c303, c414, c421]
      ·skip
       rw [if_neg] at hr413
       rotate_left
       ·simp [-Zd, Zb, c303, c414]
       obtain ⟨z423, hz423, hr413⟩ := bs hr413
       obtain rfl := Option.some.inj hz423
       refine Zt rfl (by simp [-Zd, Zb, c303, c414]; first | exact ⟨rfl, rfl⟩ | rfl) (by kernel_rfl) ?_
       rw [if_neg] at hr413
       rotate_left
       ·simp [-Zd, Zb, c303, c414]
       refine Zg (by simp [-Zd, Zb, bV, c303, c414]) ?_
       refine Zo ?_
       obtain ⟨r424, q424, rfl⟩ := ms hr413
       simp only [pq, reduceCtorEq]
       rintro rfl
       try simp only [pq, reduceCtorEq]
       exact ZK (key := 1000017) (kq := ⟨[0, 1, 10, 11], [1000000], []⟩) rfl rfl rfl (by simp [-Zd, Zb, und, List.replicate, c303, c414]) (J399 p236 q424)
    ·skip
     intro J386
     simp only [pq, reduceCtorEq] at J386
     refine ZU (kq := ⟨[0, 1, 10, 11], [1000000], []⟩) (H := fun (s : Int) => match s with | p216 => (⟨([.one (.ms 1000000 0 0 (p151.length) 1), .one (.v (.int .i64 a1))] ++ (und 8 ++ ([.one (.v (.int .i64 p216)), .one (.v (.int .i64 p150))] ++ (und 156))) : List PV), ([(1000000, ⟨0, 1, Zi .u64 p151, false, true⟩)] : Boxes)⟩ : ASt)) (by kernel_rfl) hr373 (by simp [-Zd, Zb, und, List.replicate, c303]) ?_
     rintro p216 x425r hr425
     simp only [Y1] at hr425
     unfold b75_4
     simp only [und, List.replicate, List.cons_append, List.nil_append]
     refine Zf ?_
     by_cases c426 : p216 ≤ p150
     ·skip
      rw [if_pos] at hr425
      rotate_left
      ·simp [-Zd, Zb, c303, c426]
      obtain ⟨z427, hz427, hr425⟩ := bs hr425
      obtain ⟨j428, hj428, hz427⟩ := bs hz427
      obtain ⟨j428a, j428b, j428c⟩ := Zm hj428
      obtain ⟨x429, hx429, hz427⟩ := bs hz427
      have ghx429 := Zq hx429
      obtain ⟨j430, hj430, hz427⟩ := bs hz427
      obtain ⟨j430a, j430b, j430c⟩ := Zm hj430
      obtain rfl : j274 = j430 := j274b.symm.trans j430b
      obtain ⟨x431, hx431, hz427⟩ := bs hz427
      have ghx431 := Zq hx431
      obtain ⟨y432, hy432, hz427⟩ := bs hz427
      have ehy432 := ZaE hy432
      simp only [E39, R39, nf, nfs] at ehy432
      try simp only [Zb] at ehy432
      obtain rfl := Option.some.inj hz427
      refine Zt rfl (by simp [-Zd, Zb, j428a, j428b, j428c, hx429, ghx429, j430a, j430b, j430c, j274a, j274b, j274c, hx431, ghx431, hO, hT39, ehy432, c303, c426]; first | exact ⟨rfl, rfl⟩ | rfl) (by kernel_rfl) ?_
      by_cases c433 : y432 = true
      ·skip
       rw [if_pos] at hr425
       rotate_left
       ·simp [-Zd, Zb, c303, c426, c433]
       refine Ze (by simp [-Zd, Zb, bV, c303, c426, c433]) ?_
       refine Zh ?_
       refine YT ?_
       refine ZA rfl (by simp [-Zd, Zb, c303, c426, c433]; rfl) ?_
       obtain rfl := Option.some.inj hr425
       simp only [pq, reduceCtorEq]
       simp [-Zd, Zb, und, List.replicate, Nat.add_assoc, c303, c426, c433]
      ·skip
       rw [if_neg] at hr425
       rotate_left
       ·simp [-Zd, Zb, c303, c426, c433]
       refine Zg (by simp [-Zd, Zb, bV, c303, c426, c433]) ?_
       refine Zo ?_
       obtain ⟨r434, q434, rfl⟩ := ms hr425
       simp only [pq, reduceCtorEq]
       rintro rfl
       try simp only [pq, reduceCtorEq]
       exact ZK (key := 15) (kq := ⟨[0, 1, 10, 11], [1000000], []⟩) rfl rfl rfl (by simp [-Zd, Zb, und, List.replicate, c303, c426, c433]) (J386 p216 q434)
     ·skip
      rw [if_neg] at hr425
      rotate_left
      ·simp [-Zd, Zb, c303, c426]
      obtain ⟨z435, hz435, hr425⟩ := bs hr425
      obtain rfl := Option.some.inj hz435
      refine Zt rfl (by simp [-Zd, Zb, c303, c426]; first | exact ⟨rfl, rfl⟩ | rfl) (by kernel_rfl) ?_
      rw [if_neg] at hr425
      rotate_left
      ·simp [-Zd, Zb, c303, c426]
      refine Zg (by simp [-Zd, Zb, bV, c303, c426]) ?_
      refine Zo ?_
      obtain ⟨r436, q436, rfl⟩ := ms hr425
      simp only [pq, reduceCtorEq]
      rintro rfl
      try simp only [pq, reduceCtorEq]
      exact ZK (key := 15) (kq := ⟨[0, 1, 10, 11], [1000000], []⟩) rfl rfl rfl (by simp [-Zd, Zb, und, List.replicate, c303, c426]) (J386 p216 q436)
  ·skip
   intro J302
   simp only [pq, reduceCtorEq] at J302
   refine ZU (kq := ⟨[0, 1, 10, 11], [1000000], []⟩) (H := fun (s : Int) => match s with | p39 => (⟨([.one (.ms 1000000 0 0 ((((a0).set j274 x273).set j272 x275).length) 1), .one (.v (.int .i64 a1))] ++ (und 8 ++ ([.one (.v (.int .i64 p19)), .one (.v (.int .i64 p39))] ++ (und 156))) : List PV), ([(1000000, ⟨0, 1, Zi .u64 (((a0).set j274 x273).set j272 x275), false, true⟩)] : Boxes)⟩ : ASt)) (by kernel_rfl) hk289 (by simp [-Zd, Zb, und, List.replicate, ]) ?_
   rintro p39 x437r hr437
   simp only [Y3] at hr437
   unfold b75_2
   simp only [und, List.replicate, List.cons_append, List.nil_append]
   refine Zf ?_
   by_cases c438 : p19 ≤ p39
   ·skip
    rw [if_pos] at hr437
    rotate_left
    ·simp [-Zd, Zb, c438]
    obtain ⟨z439, hz439, hr437⟩ := bs hr437
    obtain ⟨j440, hj440, hz439⟩ := bs hz439
    obtain ⟨j440a, j440b, j440c⟩ := Zm hj440
    try simp only [List.length_set] at j440c
    obtain ⟨x441, hx441, hz439⟩ := bs hz439
    have ghx441 := Zq hx441
    have mhx441 : (Zi .u64 (((a0).set j274 x273).set j272 x275))[j440]? = some [.v (.int .u64 x441)] := by rw [ZbK, hx441]; rfl
    simp only [nf] at mhx441
    have mghx441 := Zq mhx441
    obtain ⟨j442, hj442, hz439⟩ := bs hz439
    obtain ⟨j442a, j442b, j442c⟩ := Zm hj442
    try simp only [List.length_set] at j442c
    obtain rfl : j274 = j442 := j274b.symm.trans j442b
    obtain ⟨x443, hx443, hz439⟩ := bs hz439
    have ghx443 := Zq hx443
    have mhx443 : (Zi .u64 (((a0).set j274 x273).set j272 x275))[j274]? = some [.v (.int .u64 x443)] := by rw [ZbK, hx443]; rfl
    simp only [nf] at mhx443
    have mghx443 := Zq mhx443
    obtain ⟨y444, hy444, hz439⟩ := bs hz439
    have ehy444 := ZaE hy444
    simp only [E39, R39, nf, nfs] at ehy444
    try simp only [Zb] at ehy444
    obtain rfl := Option.some.inj hz439
    refine Zt rfl (by simp [-Zd, Zb, j440a, j440b, j440c, hx441, ghx441, mhx441, mghx441, j442a, j442b, j442c, j274a, j274b, j274c, hx443, ghx443, mhx443, mghx443, hO, hT39, ehy444, c438]; first | exact ⟨rfl, rfl⟩ | rfl) (by kernel_rfl) ?_
    by_cases c445 : y444 = true
    ·skip
     rw [if_neg] at hr437
     rotate_left
     ·simp [-Zd, Zb, c438, c445]
     refine Zg (by simp [-Zd, Zb, bV, c438, c445]) ?_
     refine Zo ?_
     obtain ⟨r446, q446, rfl⟩ := ms hr437
     simp only [pq, reduceCtorEq]
     rintro rfl
     try simp only [pq, reduceCtorEq]
     exact ZK (key := 1000007) (kq := ⟨[0, 1, 10, 11], [1000000], []⟩) rfl rfl rfl (by simp [-Zd, Zb, und, List.replicate, c438, c445]) (J302 p39 q446)
    ·skip
     rw [if_pos] at hr437
     rotate_left
     ·simp [-Zd, Zb, c438, c445]
     refine Ze (by simp [-Zd, Zb, bV, c438, c445]) ?_
     refine Zh ?_
     refine YT ?_
     refine ZA rfl (by simp [-Zd, Zb, c438, c445]; rfl) ?_
     obtain rfl := Option.some.inj hr437
     simp only [pq, reduceCtorEq]
     simp [-Zd, Zb, und, List.replicate, Nat.add_assoc, c438, c445]
   ·skip
    rw [if_neg] at hr437
    rotate_left
    ·simp [-Zd, Zb, c438]
    obtain ⟨z447, hz447, hr437⟩ := bs hr437
    obtain rfl := Option.some.inj hz447
    refine Zt rfl (by simp [-Zd, Zb, c438]; first | exact ⟨rfl, rfl⟩ | rfl) (by kernel_rfl) ?_
    rw [if_neg] at hr437
    rotate_left
    ·simp [-Zd, Zb, c438]
    refine Zg (by simp [-Zd, Zb, bV, c438]) ?_
    refine Zo ?_
    obtain ⟨r448, q448, rfl⟩ := ms hr437
    simp only [pq, reduceCtorEq]
    rintro rfl
    try simp only [pq, reduceCtorEq]
    exact ZK (key := 1000007) (kq := ⟨[0, 1, 10, 11], [1000000], []⟩) rfl rfl rfl (by simp [-Zd, Zb, und, List.replicate, c438]) (J302 p39 q448)
 ·skip
  intro J289
  simp only [pq, reduceCtorEq] at J289
  refine ZU (kq := ⟨[0, 1, 10, 11], [1000000], []⟩) (H := fun (s : Int) => match s with | p19 => (⟨([.one (.ms 1000000 0 0 ((((a0).set j274 x273).set j272 x275).length) 1), .one (.v (.int .i64 a1))] ++ (und 8 ++ ([.one (.v (.int .i64 p19)), .one (.v (.int .i64 (IntKind.i64.wrap (a2 - 1))))] ++ (und 156))) : List PV), ([(1000000, ⟨0, 1, Zi .u64 (((a0).set j274 x273).set j272 x275), false, true⟩)] : Boxes)⟩ : ASt)) (by kernel_rfl) hr (by simp [-Zd, Zb, und, List.replicate, ]) ?_
  rintro p19 x449r hr449
  simp only [Y4] at hr449
  unfold b75_1
  simp only [und, List.replicate, List.cons_append, List.nil_append]
  refine Zf ?_
  by_cases c450 : p19 ≤ IntKind.i64.wrap (a2 - 1)
  ·skip
   rw [if_pos] at hr449
   rotate_left
   ·simp [-Zd, Zb, c450]
   obtain ⟨z451, hz451, hr449⟩ := bs hr449
   obtain ⟨j452, hj452, hz451⟩ := bs hz451
   obtain ⟨j452a, j452b, j452c⟩ := Zm hj452
   try simp only [List.length_set] at j452c
   obtain ⟨x453, hx453, hz451⟩ := bs hz451
   have ghx453 := Zq hx453
   have mhx453 : (Zi .u64 (((a0).set j274 x273).set j272 x275))[j452]? = some [.v (.int .u64 x453)] := by rw [ZbK, hx453]; rfl
   simp only [nf] at mhx453
   have mghx453 := Zq mhx453
   obtain ⟨j454, hj454, hz451⟩ := bs hz451
   obtain ⟨j454a, j454b, j454c⟩ := Zm hj454
   try simp only [List.length_set] at j454c
   obtain rfl : j274 = j454 := j274b.symm.trans j454b
   obtain ⟨x455, hx455, hz451⟩ := bs hz451
   have ghx455 := Zq hx455
   have mhx455 : (Zi .u64 (((a0).set j274 x273).set j272 x275))[j274]? = some [.v (.int .u64 x455)] := by rw [ZbK, hx455]; rfl
   simp only [nf] at mhx455
   have mghx455 := Zq mhx455
   obtain ⟨y456, hy456, hz451⟩ := bs hz451
   have ehy456 := ZaE hy456
   simp only [E39, R39, nf, nfs] at ehy456
   try simp only [Zb] at ehy456
   obtain rfl := Option.some.inj hz451
   refine Zt rfl (by simp [-Zd, Zb, j452a, j452b, j452c, hx453, ghx453, mhx453, mghx453, j454a, j454b, j454c, j274a, j274b, j274c, hx455, ghx455, mhx455, mghx455, hO, hT39, ehy456, c450]; first | exact ⟨rfl, rfl⟩ | rfl) (by kernel_rfl) ?_
   by_cases c457 : y456 = true
   ·skip
    rw [if_pos] at hr449
    rotate_left
    ·simp [-Zd, Zb, c450, c457]
    refine Ze (by simp [-Zd, Zb, bV, c450, c457]) ?_
    refine Zh ?_
    refine YT ?_
    refine ZA rfl (by simp [-Zd, Zb, c450, c457]; rfl) ?_
    obtain rfl := Option.some.inj hr449
    simp only [pq, reduceCtorEq]
    simp [-Zd, Zb, und, List.replicate, Nat.add_assoc, c450, c457]
   ·skip
    rw [if_neg] at hr449
    rotate_left
    ·simp [-Zd, Zb, c450, c457]
    refine Zg (by simp [-Zd, Zb, bV, c450, c457]) ?_
    refine Zo ?_
    obtain ⟨r458, q458, rfl⟩ := ms hr449
    simp only [pq, reduceCtorEq]
    rintro rfl
    try simp only [pq, reduceCtorEq]
    exact ZK (key := 5) (kq := ⟨[0, 1, 10, 11], [1000000], []⟩) rfl rfl rfl (by simp [-Zd, Zb, und, List.replicate, c450, c457]) (J289 p19 q458)
  ·skip
   rw [if_neg] at hr449
   rotate_left
   ·simp [-Zd, Zb, c450]
   obtain ⟨z459, hz459, hr449⟩ := bs hr449
   obtain rfl := Option.some.inj hz459
   refine Zt rfl (by simp [-Zd, Zb, c450]; first | exact ⟨rfl, rfl⟩ | rfl) (by kernel_rfl) ?_
   rw [if_neg] at hr449
   rotate_left
   ·simp [-Zd, Zb, c450]
   refine Zg (by simp [-Zd, Zb, bV, c450]) ?_
   refine Zo ?_
   obtain ⟨r460, q460, rfl⟩ := ms hr449
   simp only [pq, reduceCtorEq]
   rintro rfl
   try simp only [pq, reduceCtorEq]
   exact ZK (key := 5) (kq := ⟨[0, 1, 10, 11], [1000000], []⟩) rfl rfl rfl (by simp [-Zd, Zb, und, List.replicate, c450]) (J289 p19 q460)
def kp70_11 : Keep := fun i => if i = 5 then ⟨[0, 1, 6, 7, 8, 9], [7, 1000000], []⟩ else if i = 1000010 then ⟨[0, 1, 6, 7, 8, 9, 10], [7, 1000000], []⟩ else ⟨[], [], []⟩
theorem Zos {T : Tab} (hO : T.own = fun _ => []) (hT79 : T 79 = some G79) (hT80 : T 80 = some G80) (a0 : (List Int)) (a1 : Int) (a2 : Int) (x : (List Int)) (hr : Z9 a0 a1 a2 = some x) : ∃ kp fl n, ZI tt T G kp fl n Try.f70 (Zdm (a0, a1, a2)) = some (ZeP (a0, a1, a2) x) := by
 simp only [Zdm, ZeP]
 refine fnE (kp := kp70_11) (w := false) body70 (by simp) ?_
 unfold c70
 rw [Try.ntmps70]
 unfold Z9 at hr
 refine Za rfl (by simp [-Int.natCast_tdiv_eq_ediv, Nat.add_assoc, -Zd, Zb]; rfl) ?_
 refine Za rfl (by simp [-Int.natCast_tdiv_eq_ediv, Nat.add_assoc, -Zd, Zb]; rfl) ?_
 by_cases c29 : 8 ≤ IntKind.i64.wrap (a2 - a1)
 ·skip
  rw [if_pos c29] at hr
  refine Yo (by simp [-Int.natCast_tdiv_eq_ediv, Nat.add_assoc, -Zd, Zb, bV, c29]) ?_
  refine Za rfl (by simp [-Int.natCast_tdiv_eq_ediv, Nat.add_assoc, -Zd, Zb, c29]; rfl) ?_
  obtain ⟨y30, hy30, hr⟩ := bs hr
  have ehy30 := Zn4 hy30
  simp only [E79, R79, nf, nfs] at ehy30
  try simp only [Zb] at ehy30
  refine Za rfl (by simp [-Int.natCast_tdiv_eq_ediv, Nat.add_assoc, -Zd, Zb, hO, hT79, ehy30, c29]; rfl) ?_
  refine Za rfl (by simp [-Int.natCast_tdiv_eq_ediv, Nat.add_assoc, -Zd, Zb, c29]; rfl) ?_
  refine YT ?_
  refine ZU (kq := ⟨[0, 1, 6, 7, 8, 9], [7, 1000000], []⟩) (H := fun (s : Int × (List Int) × Int) => match s with | (p19, p20, p21) => (⟨([.one (.ms 1000000 0 0 (p20.length) 1), .one (.v (.int .i64 a1))] ++ (und 4 ++ ([.one (.v (.int .i64 (IntKind.i64.wrap (a2 - a1)))), .ptr 7 0 0 0 1, .one (.v (.int .u64 y30)), .one (.v (.int .i64 p19))] ++ (und 55))) : List PV), ([(7, ⟨0, 1, [[.v (.int .u64 p21)]], false, false⟩), (1000000, ⟨0, 1, Zi .u64 p20, false, true⟩)] : Boxes)⟩ : ASt)) (by kernel_rfl) hr (by simp [-Int.natCast_tdiv_eq_ediv, Nat.add_assoc, -Zd, Zb, und, List.replicate, c29]) ?_
  rintro ⟨p19, p20, p21⟩ x31r hr31
  simp only [YV] at hr31
  unfold b70_1
  simp only [und, List.replicate, List.cons_append, List.nil_append]
  refine Zf ?_
  refine Za rfl (by simp [-Int.natCast_tdiv_eq_ediv, Nat.add_assoc, -Zd, Zb, c29]; rfl) ?_
  by_cases c32 : p19 ≤ IntKind.i64.wrap ((IntKind.i64.wrap (a1 + (IntKind.i64.wrap ((IntKind.i64.wrap ((IntKind.i64.wrap (a2 - a1)).tdiv 4)) * 2)))) + 1)
  ·skip
   rw [if_pos] at hr31
   rotate_left
   ·simp [-Int.natCast_tdiv_eq_ediv, Nat.add_assoc, -Zd, Zb, c29, c32]
   refine Ze (by simp [-Int.natCast_tdiv_eq_ediv, Nat.add_assoc, -Zd, Zb, bV, c29, c32]) ?_
   refine Zh ?_
   refine Zk ?_
   obtain ⟨y33, hy33, hr31⟩ := bs hr31
   have ehy33 := Zn5 hy33
   simp only [E80, R80, nf, nfs] at ehy33
   try simp only [Zb] at ehy33
   refine Za rfl (by simp [-Int.natCast_tdiv_eq_ediv, Nat.add_assoc, -Zd, Zb, hO, hT80, ehy33, c29, c32]; rfl) ?_
   refine Zf ?_
   refine Za rfl (by simp [-Int.natCast_tdiv_eq_ediv, Nat.add_assoc, -Zd, Zb, c29, c32]; rfl) ?_
   refine Za2 hr31 (fun (s : Int) => match s with | p23 => (⟨([.one (.ms 1000000 0 0 (p20.length) 1), .one (.v (.int .i64 a1))] ++ (und 4 ++ ([.one (.v (.int .i64 (IntKind.i64.wrap (a2 - a1)))), .ptr 7 0 0 0 1, .one (.v (.int .u64 y30)), .one (.v (.int .i64 p19)), .one (.v (.int .i64 p23))] ++ (und 54))) : List PV), ([(7, ⟨0, 1, [[.v (.int .u64 y33.2)]], false, false⟩), (1000000, ⟨0, 1, Zi .u64 p20, false, true⟩)] : Boxes)⟩ : ASt)) (fun (s : Int) => match s with | p23 => Z1 p20 a1 p19 y33 p23) ?_ ?_
   ·skip
    rintro p23 hk35
    change Z1 p20 a1 p19 y33 p23 = _ at hk35
    simp only [und, List.replicate, List.cons_append, List.nil_append]
    unfold Z1 at hk35
    obtain ⟨j36, hj36, hk35⟩ := bs hk35
    obtain ⟨j36a, j36b, j36c⟩ := Zm hj36
    obtain ⟨x37, hx37, hk35⟩ := bs hk35
    have ghx37 := Zq hx37
    obtain ⟨j38, hj38, hk35⟩ := bs hk35
    obtain ⟨j38a, j38b, j38c⟩ := Zm hj38
    obtain ⟨x39, hx39, hk35⟩ := bs hk35
    have ghx39 := Zq hx39
    obtain ⟨j38a, j38b, j38c⟩ := Zm hj38
    obtain ⟨j40, hj40, hk35⟩ := bs hk35
    obtain ⟨j40a, j40b, j40c⟩ := Zm hj40
    try simp only [List.length_set] at j40c
    obtain rfl : j36 = j40 := j36b.symm.trans j40b
    refine Zit rfl (kq := ⟨[0, 1, 6, 7, 8, 9, 10], [7, 1000000], []⟩) rfl (by simp [-Int.natCast_tdiv_eq_ediv, Nat.add_assoc, -Zd, Zb, Ys, j36a, j36b, j36c, hx37, ghx37, j38a, j38b, j38c, hx39, ghx39, j40a, j40b, j40c, c29, c32]; rfl) (by simp [-Int.natCast_tdiv_eq_ediv, Nat.add_assoc, -Zd, Zb, j36a, j36b, j36c, hx37, ghx37, j38a, j38b, j38c, hx39, ghx39, j40a, j40b, j40c, c29, c32]; first | exact ⟨rfl, rfl⟩ | rfl) (by kernel_rfl) ?_
    simp only [pq, reduceCtorEq]
    refine ZA rfl (by simp [-Int.natCast_tdiv_eq_ediv, Nat.add_assoc, -Zd, Zb, c29, c32]; rfl) ?_
    obtain rfl := Option.some.inj hk35
    simp only [pq, reduceCtorEq]
    simp [-Int.natCast_tdiv_eq_ediv, Nat.add_assoc, -Zd, Zb, und, List.replicate, Nat.add_assoc, c29, c32]
   ·skip
    intro J35
    by_cases c41 : IntKind.i64.wrap (a2 - a1) ≤ IntKind.i64.wrap (bits .and .u64 y33.1 (IntKind.u64.wrap (y30 - 1)))
    ·skip
     rw [if_pos c41] at hr31
     refine Ze (by simp [-Int.natCast_tdiv_eq_ediv, Nat.add_assoc, -Zd, Zb, bV, c29, c32, c41]) ?_
     refine Za rfl (by simp [-Int.natCast_tdiv_eq_ediv, Nat.add_assoc, -Zd, Zb, c29, c32, c41]; rfl) ?_
     exact ZK (key := 1000010) (kq := ⟨[0, 1, 6, 7, 8, 9, 10], [7, 1000000], []⟩) rfl rfl rfl (by simp [-Int.natCast_tdiv_eq_ediv, Nat.add_assoc, -Zd, Zb, und, List.replicate, c29, c32, c41]) (J35 (IntKind.i64.wrap ((IntKind.i64.wrap (bits .and .u64 y33.1 (IntKind.u64.wrap (y30 - 1)))) - (IntKind.i64.wrap (a2 - a1)))) hr31)
    ·skip
     rw [if_neg c41] at hr31
     refine Zg (by simp [-Int.natCast_tdiv_eq_ediv, Nat.add_assoc, -Zd, Zb, bV, c29, c32, c41]) ?_
     refine Zh ?_
     exact ZK (key := 1000010) (kq := ⟨[0, 1, 6, 7, 8, 9, 10], [7, 1000000], []⟩) rfl rfl rfl (by simp [-Int.natCast_tdiv_eq_ediv, Nat.add_assoc, -Zd, Zb, und, List.replicate, c29, c32, c41]) (J35 (IntKind.i64.wrap (bits .and .u64 y33.1 (IntKind.u64.wrap (y30 - 1)))) hr31)
  ·skip
   rw [if_neg] at hr31
   rotate_left
   ·simp [-Int.natCast_tdiv_eq_ediv, Nat.add_assoc, -Zd, Zb, c29, c32]
   refine Zg (by simp [-Int.natCast_tdiv_eq_ediv, Nat.add_assoc, -Zd, Zb, bV, c29, c32]) ?_
   refine Zo ?_
   obtain ⟨_, u42, hr31⟩ := bs hr31
   have u42_0 := Zp u42
   obtain rfl := Option.some.inj hr31
   simp only [pq, reduceCtorEq]
   rintro rfl
   simp [-Int.natCast_tdiv_eq_ediv, Nat.add_assoc, -Zd, Zb, Zn, u42_0, c29, c32]
 ·skip
  rw [if_neg c29] at hr
  refine YI (by simp [-Int.natCast_tdiv_eq_ediv, Nat.add_assoc, -Zd, Zb, bV, c29]) ?_
  refine XA ?_
  obtain rfl := Option.some.inj hr
  simp [-Int.natCast_tdiv_eq_ediv, Nat.add_assoc, -Zd, Zb, Zn, c29]
end Go.Proofs.Ytmjbklblgpnagaa
