import Derived.Test.YtmjbklblgpnagaaLfK
import Derived.Test.YtmjbklblgpnagaaCode
import Derived.Test.YtmjbklblgpnagaaBl
namespace Go.Proofs.Ytmjbklblgpnagaa
open Go.RowKit
open Go.Av
open Go.Lc
set_option maxRecDepth 100000
set_option linter.unusedSimpArgs false
set_option linter.unusedVariables false
set_option maxHeartbeats 4000000
variable {G : Glob}
def kp73_7 : Keep := fun i => if i = 3 then ⟨[0, 1, 2, 7, 8], [1000000], []⟩ else if i = 1000007 then ⟨[0, 1, 2, 7, 8], [1000000], []⟩ else if i = 1000018 then ⟨[0, 1, 2, 7, 8], [1000000], []⟩ else if i = 1000004 then ⟨[0, 1, 2, 7, 8], [1000000], []⟩ else if i = 20 then ⟨[0, 1, 2, 7, 8, 10], [1000000], []⟩ else if i = 14 then ⟨[0, 1, 2, 7, 8, 9], [1000000], []⟩ else if i = 5 then ⟨[0, 1, 2, 7, 8], [1000000], []⟩ else ⟨[], [], []⟩
theorem Zpf {T : Tab} (hO : T.own = fun _ => []) (hT39 : T 39 = some G39) (a0 : (List Int)) (a1 : Int) (a2 : Int) (x : Bool × (List Int)) (hr : ZT a0 a1 a2 = some x) : ∃ kp fl n, ZI tt T G kp fl n Try.f73 (Zd9 (a0, a1, a2)) = some (Zf5 (a0, a1, a2) x) := by
 simp only [Zd9, Zf5]
 refine fnE (kp := kp73_7) (w := false) body73 (by simp) ?_
 unfold c73
 rw [Try.ntmps73]
 unfold ZT at hr
 refine Za rfl (by simp [-Zd, Zb]; rfl) ?_
 refine Za rfl (by simp [-Zd, Zb]; rfl) ?_
 refine Zf ?_
 refine Za rfl (by simp [-Zd, Zb]; rfl) ?_
 refine Zk ?_
 refine ZU (kq := ⟨[0, 1, 2, 7, 8], [1000000], []⟩) (H := fun (s : Int × Int × (List Int)) => match s with | (p146, p147, p148) => (⟨([.one (.ms 1000000 0 0 (p148.length) 1), .one (.v (.int .i64 a1)), .one (.v (.int .i64 a2))] ++ (und 4 ++ ([.one (.v (.int .i64 p146)), .one (.v (.int .i64 p147))] ++ (und 124))) : List PV), ([(1000000, ⟨0, 1, Zi .u64 p148, false, true⟩)] : Boxes)⟩ : ASt)) (by kernel_rfl) hr (by simp [-Zd, Zb, und, List.replicate, ]) ?_
 rintro ⟨p146, p147, p148⟩ x428r hr428
 simp only [ZX] at hr428
 unfold b73_1
 simp only [und, List.replicate, List.cons_append, List.nil_append]
 refine Zf ?_
 refine Za rfl (by simp [-Zd, Zb]; rfl) ?_
 by_cases c429 : p147 < 5
 ·skip
  rw [if_pos] at hr428
  rotate_left
  ·simp [-Zd, Zb, c429]
  refine Ze (by simp [-Zd, Zb, bV, c429]) ?_
  refine Zh ?_
  refine Zk ?_
  refine Zk ?_
  refine ZbR hr428 (.exit 2) (fun (s : Int) => match s with | p233 => (⟨([.one (.ms 1000000 0 0 (p148.length) 1), .one (.v (.int .i64 a1)), .one (.v (.int .i64 a2))] ++ (und 4 ++ ([.one (.v (.int .i64 p233)), .one (.v (.int .i64 p147))] ++ (und 124))) : List PV), ([(1000000, ⟨0, 1, Zi .u64 p148, false, true⟩)] : Boxes)⟩ : ASt)) (fun (s : Int) => match s with | p233 => ZF p233 a2 p148 a0 a1 p147) ?_ ?_
  ·skip
   rintro p233 hk442
   change ZF p233 a2 p148 a0 a1 p147 = _ at hk442
   simp only [pq, reduceCtorEq]
   simp only [und, List.replicate, List.cons_append, List.nil_append]
   unfold ZF at hk442
   refine Zf ?_
   refine Y6 rfl (kq := ⟨[0, 1, 2, 7, 8], [1000000], []⟩) rfl (by simp [-Zd, Zb, Ys, c429]; rfl) (by simp [-Zd, Zb, c429]; rfl) ?_
   by_cases c443 : p233 = a2
   ·skip
    rw [if_pos c443] at hk442
    refine Ze (by simp [-Zd, Zb, bV, c429, eq_true c443]) ?_
    refine Zf ?_
    refine Za rfl (by simp [-Zd, Zb, c429, eq_true c443]; rfl) ?_
    refine Zl ?_
    obtain ⟨_, u444, hk442⟩ := bs hk442
    have u444_0 := Zp u444
    obtain rfl := Option.some.inj hk442
    simp only [pq, reduceCtorEq]
    rintro rfl
    simp [-Zd, Zb, Zn, u444_0, c429, eq_true c443]
   ·skip
    rw [if_neg c443] at hk442
    refine Zg (by simp [-Zd, Zb, bV, c429, c443]) ?_
    refine Zh ?_
    refine Zf ?_
    refine Za rfl (by simp [-Zd, Zb, c429, c443]; rfl) ?_
    by_cases c445 : IntKind.i64.wrap (a2 - a1) < 50
    ·skip
     rw [if_pos c445] at hk442
     refine Ze (by simp [-Zd, Zb, bV, c429, c443, c445]) ?_
     refine Zf ?_
     refine Za rfl (by simp [-Zd, Zb, c429, c443, c445]; rfl) ?_
     refine Zl ?_
     obtain ⟨_, u446, hk442⟩ := bs hk442
     have u446_0 := Zp u446
     obtain rfl := Option.some.inj hk442
     simp only [pq, reduceCtorEq]
     rintro rfl
     simp [-Zd, Zb, Zn, u446_0, c429, c443, c445]
    ·skip
     rw [if_neg c445] at hk442
     refine Zg (by simp [-Zd, Zb, bV, c429, c443, c445]) ?_
     refine Zh ?_
     obtain ⟨j447, hj447, hk442⟩ := bs hk442
     obtain ⟨j447a, j447b, j447c⟩ := Zm hj447
     obtain ⟨x448, hx448, hk442⟩ := bs hk442
     have ghx448 := Zq hx448
     obtain ⟨j449, hj449, hk442⟩ := bs hk442
     obtain ⟨j449a, j449b, j449c⟩ := Zm hj449
     obtain ⟨x450, hx450, hk442⟩ := bs hk442
     have ghx450 := Zq hx450
     obtain ⟨j449a, j449b, j449c⟩ := Zm hj449
     obtain ⟨j451, hj451, hk442⟩ := bs hk442
     obtain ⟨j451a, j451b, j451c⟩ := Zm hj451
     try simp only [List.length_set] at j451c
     obtain rfl : j447 = j451 := j447b.symm.trans j451b
     refine Zt rfl (by simp [-Zd, Zb, j447a, j447b, j447c, hx448, ghx448, j449a, j449b, j449c, hx450, ghx450, j451a, j451b, j451c, c429, c443, c445]; first | exact ⟨rfl, rfl⟩ | rfl) (by kernel_rfl) ?_
     refine Zf ?_
     refine Za rfl (by simp [-Zd, Zb, c429, c443, c445]; rfl) ?_
     refine Za2 hk442 (fun (s : (List Int)) => match s with | p267 => (⟨([.one (.ms 1000000 0 0 (p267.length) 1), .one (.v (.int .i64 a1)), .one (.v (.int .i64 a2))] ++ (und 4 ++ ([.one (.v (.int .i64 p233)), .one (.v (.int .i64 p147))] ++ (und 124))) : List PV), ([(1000000, ⟨0, 1, Zi .u64 p267, false, true⟩)] : Boxes)⟩ : ASt)) (fun (s : (List Int)) => match s with | p267 => ZE a2 p233 p147 p267) ?_ ?_
     ·skip
      rintro p267 hk464
      change ZE a2 p233 p147 p267 = _ at hk464
      simp only [und, List.replicate, List.cons_append, List.nil_append]
      unfold ZE at hk464
      refine Y6 rfl (kq := ⟨[0, 1, 2, 7, 8], [1000000], []⟩) rfl (by simp [-Zd, Zb, Ys, c429, c443, c445]; rfl) (by simp [-Zd, Zb, c429, c443, c445]; rfl) ?_
      refine ZbR hk464 (.normal) (fun (s : (List Int)) => match s with | p290 => (⟨([.one (.ms 1000000 0 0 (p290.length) 1), .one (.v (.int .i64 a1)), .one (.v (.int .i64 a2))] ++ (und 4 ++ ([.one (.v (.int .i64 p233)), .one (.v (.int .i64 p147))] ++ (und 124))) : List PV), ([(1000000, ⟨0, 1, Zi .u64 p290, false, true⟩)] : Boxes)⟩ : ASt)) (fun (s : (List Int)) => match s with | p290 => ZD p233 p147 p290) ?_ ?_
      ·skip
       rintro p290 hk477
       change ZD p233 p147 p290 = _ at hk477
       simp only [pq, reduceCtorEq]
       simp only [und, List.replicate, List.cons_append, List.nil_append]
       unfold ZD at hk477
       refine ZbH rfl (kq := ⟨[0, 1, 2, 7, 8], [1000000], []⟩) rfl (by simp [-Zd, Zb, Ys, c429, c443, c445]; rfl) (by simp [-Zd, Zb, c429, c443, c445]; rfl) ?_
       obtain rfl := Option.some.inj hk477
       simp only [pq, reduceCtorEq]
       simp [-Zd, Zb, und, List.replicate, Nat.add_assoc, c429, c443, c445]
      ·skip
       intro J477
       simp only [pq, reduceCtorEq] at J477
       by_cases c478 : 2 ≤ IntKind.i64.wrap (a2 - p233)
       ·skip
        rw [if_pos c478] at hk464
        refine Yo (by simp [-Zd, Zb, bV, c429, c443, c445, c478]) ?_
        refine Za rfl (by simp [-Zd, Zb, c429, c443, c445, c478]; rfl) ?_
        refine YT ?_
        refine ZU (kq := ⟨[0, 1, 2, 7, 8, 10], [1000000], []⟩) (H := fun (s : Int × (List Int)) => match s with | (p305, p306) => (⟨([.one (.ms 1000000 0 0 (p306.length) 1), .one (.v (.int .i64 a1)), .one (.v (.int .i64 a2))] ++ (und 4 ++ ([.one (.v (.int .i64 p233)), .one (.v (.int .i64 p147))] ++ (und 1 ++ ([.one (.v (.int .i64 p305))] ++ (und 122))))) : List PV), ([(1000000, ⟨0, 1, Zi .u64 p306, false, true⟩)] : Boxes)⟩ : ASt)) (by kernel_rfl) hk464 (by simp [-Zd, Zb, und, List.replicate, c429, c443, c445, c478]) ?_
        rintro ⟨p305, p306⟩ x479r hr479
        simp only [Ye] at hr479
        unfold b73_4
        simp only [und, List.replicate, List.cons_append, List.nil_append]
        refine Zf ?_
        refine Za rfl (by simp [-Zd, Zb, c429, c443, c445, c478]; rfl) ?_
        by_cases c480 : p305 < a2
        ·skip
         rw [if_pos] at hr479
         rotate_left
         ·simp [-Zd, Zb, c429, c443, c445, c478, c480]
         refine Ze (by simp [-Zd, Zb, bV, c429, c443, c445, c478, c480]) ?_
         refine Zh ?_
         refine Zk ?_
         refine Zf ?_
         obtain ⟨j481, hj481, hr479⟩ := bs hr479
         obtain ⟨j481a, j481b, j481c⟩ := Zm hj481
         obtain ⟨x482, hx482, hr479⟩ := bs hr479
         have ghx482 := Zq hx482
         obtain ⟨j483, hj483, hr479⟩ := bs hr479
         obtain ⟨j483a, j483b, j483c⟩ := Zm hj483
         obtain ⟨x484, hx484, hr479⟩ := bs hr479
         have ghx484 := Zq hx484
         obtain ⟨y485, hy485, hr479⟩ := bs hr479
         have ehy485 := ZaE hy485
         simp only [E39, R39, nf, nfs] at ehy485
         try simp only [Zb] at ehy485
         refine Zt rfl (by simp [-Zd, Zb, j481a, j481b, j481c, hx482, ghx482, j483a, j483b, j483c, hx484, ghx484, hO, hT39, ehy485, c429, c443, c445, c478, c480]; first | exact ⟨rfl, rfl⟩ | rfl) (by kernel_rfl) ?_
         by_cases c486 : y485 = true
         ·skip
          rw [if_neg (not_not_intro c486)] at hr479
          refine Zg (by simp [-Zd, Zb, bV, c429, c443, c445, c478, c480, c486]) ?_
          refine Zh ?_
          obtain ⟨j483a, j483b, j483c⟩ := Zm hj483
          have ghx484 := Zq hx484
          obtain ⟨j481a, j481b, j481c⟩ := Zm hj481
          have ghx482 := Zq hx482
          obtain ⟨j481a, j481b, j481c⟩ := Zm hj481
          obtain ⟨j487, hj487, hr479⟩ := bs hr479
          obtain ⟨j487a, j487b, j487c⟩ := Zm hj487
          try simp only [List.length_set] at j487c
          obtain rfl : j483 = j487 := j483b.symm.trans j487b
          refine Zct rfl (by simp [-Zd, Zb, j483a, j483b, j483c, hx484, ghx484, j481a, j481b, j481c, hx482, ghx482, j487a, j487b, j487c, c429, c443, c445, c478, c480, c486]; first | exact ⟨rfl, rfl⟩ | rfl) (by kernel_rfl) ?_
          simp only [pq, reduceCtorEq]
          refine ZA rfl (by simp [-Zd, Zb, c429, c443, c445, c478, c480, c486]; rfl) ?_
          obtain rfl := Option.some.inj hr479
          simp only [pq, reduceCtorEq]
          simp [-Zd, Zb, und, List.replicate, Nat.add_assoc, c429, c443, c445, c478, c480, c486]
         ·skip
          rw [if_pos c486] at hr479
          refine Ze (by simp [-Zd, Zb, bV, c429, c443, c445, c478, c480, c486]) ?_
          refine Zo ?_
          obtain ⟨r488, q488, rfl⟩ := ms hr479
          simp only [pq, reduceCtorEq]
          rintro rfl
          try simp only [pq, reduceCtorEq]
          exact ZK (key := 1000004) (kq := ⟨[0, 1, 2, 7, 8], [1000000], []⟩) rfl rfl rfl (by simp [-Zd, Zb, und, List.replicate, c429, c443, c445, c478, c480, c486]) (J477 p306 q488)
        ·skip
         rw [if_neg] at hr479
         rotate_left
         ·simp [-Zd, Zb, c429, c443, c445, c478, c480]
         refine Zg (by simp [-Zd, Zb, bV, c429, c443, c445, c478, c480]) ?_
         refine Zo ?_
         obtain ⟨r489, q489, rfl⟩ := ms hr479
         simp only [pq, reduceCtorEq]
         rintro rfl
         try simp only [pq, reduceCtorEq]
         exact ZK (key := 1000004) (kq := ⟨[0, 1, 2, 7, 8], [1000000], []⟩) rfl rfl rfl (by simp [-Zd, Zb, und, List.replicate, c429, c443, c445, c478, c480]) (J477 p306 q489)
       ·skip
        rw [if_neg c478] at hk464
        refine YI (by simp [-Zd, Zb, bV, c429, c443, c445, c478]) ?_
        refine XA ?_
        simp only [pq, reduceCtorEq]
        exact ZK (key := 1000004) (kq := ⟨[0, 1, 2, 7, 8], [1000000], []⟩) rfl rfl rfl (by simp [-Zd, Zb, und, List.replicate, c429, c443, c445, c478]) (J477 p267 hk464)
     ·skip
      intro J464
      by_cases c490 : 2 ≤ IntKind.i64.wrap (p233 - a1)
      ·skip
       rw [if_pos c490] at hk442
       refine Ze (by simp [-Zd, Zb, bV, c429, c443, c445, c490]) ?_
       refine Zf ?_
       refine Za rfl (by simp [-Zd, Zb, c429, c443, c445, c490]; rfl) ?_
       refine Zk ?_
       refine ZU (kq := ⟨[0, 1, 2, 7, 8, 9], [1000000], []⟩) (H := fun (s : Int × (List Int)) => match s with | (p327, p328) => (⟨([.one (.ms 1000000 0 0 (p328.length) 1), .one (.v (.int .i64 a1)), .one (.v (.int .i64 a2))] ++ (und 4 ++ ([.one (.v (.int .i64 p233)), .one (.v (.int .i64 p147)), .one (.v (.int .i64 p327))] ++ (und 123))) : List PV), ([(1000000, ⟨0, 1, Zi .u64 p328, false, true⟩)] : Boxes)⟩ : ASt)) (by kernel_rfl) hk442 (by simp [-Zd, Zb, und, List.replicate, c429, c443, c445, c490]) ?_
       rintro ⟨p327, p328⟩ x491r hr491
       simp only [Yf] at hr491
       unfold b73_3
       simp only [und, List.replicate, List.cons_append, List.nil_append]
       refine Zf ?_
       refine Za rfl (by simp [-Zd, Zb, c429, c443, c445, c490]; rfl) ?_
       by_cases c492 : 1 ≤ p327
       ·skip
        rw [if_pos] at hr491
        rotate_left
        ·simp [-Zd, Zb, c429, c443, c445, c490, c492]
        refine Ze (by simp [-Zd, Zb, bV, c429, c443, c445, c490, c492]) ?_
        refine Zh ?_
        refine Zk ?_
        refine Zf ?_
        obtain ⟨j493, hj493, hr491⟩ := bs hr491
        obtain ⟨j493a, j493b, j493c⟩ := Zm hj493
        obtain ⟨x494, hx494, hr491⟩ := bs hr491
        have ghx494 := Zq hx494
        obtain ⟨j495, hj495, hr491⟩ := bs hr491
        obtain ⟨j495a, j495b, j495c⟩ := Zm hj495
        obtain ⟨x496, hx496, hr491⟩ := bs hr491
        have ghx496 := Zq hx496
        obtain ⟨y497, hy497, hr491⟩ := bs hr491
        have ehy497 := ZaE hy497
        simp only [E39, R39, nf, nfs] at ehy497
        try simp only [Zb] at ehy497
        refine Zt rfl (by simp [-Zd, Zb, j493a, j493b, j493c, hx494, ghx494, j495a, j495b, j495c, hx496, ghx496, hO, hT39, ehy497, c429, c443, c445, c490, c492]; first | exact ⟨rfl, rfl⟩ | rfl) (by kernel_rfl) ?_
        by_cases c498 : y497 = true
        ·skip
         rw [if_neg (not_not_intro c498)] at hr491
         refine Zg (by simp [-Zd, Zb, bV, c429, c443, c445, c490, c492, c498]) ?_
         refine Zh ?_
         obtain ⟨j495a, j495b, j495c⟩ := Zm hj495
         have ghx496 := Zq hx496
         obtain ⟨j493a, j493b, j493c⟩ := Zm hj493
         have ghx494 := Zq hx494
         obtain ⟨j493a, j493b, j493c⟩ := Zm hj493
         obtain ⟨j499, hj499, hr491⟩ := bs hr491
         obtain ⟨j499a, j499b, j499c⟩ := Zm hj499
         try simp only [List.length_set] at j499c
         obtain rfl : j495 = j499 := j495b.symm.trans j499b
         refine Zct rfl (by simp [-Zd, Zb, j495a, j495b, j495c, hx496, ghx496, j493a, j493b, j493c, hx494, ghx494, j499a, j499b, j499c, c429, c443, c445, c490, c492, c498]; first | exact ⟨rfl, rfl⟩ | rfl) (by kernel_rfl) ?_
         simp only [pq, reduceCtorEq]
         refine ZA rfl (by simp [-Zd, Zb, c429, c443, c445, c490, c492, c498]; rfl) ?_
         obtain rfl := Option.some.inj hr491
         simp only [pq, reduceCtorEq]
         simp [-Zd, Zb, und, List.replicate, Nat.add_assoc, c429, c443, c445, c490, c492, c498]
        ·skip
         rw [if_pos c498] at hr491
         refine Ze (by simp [-Zd, Zb, bV, c429, c443, c445, c490, c492, c498]) ?_
         refine Zo ?_
         obtain ⟨r500, q500, rfl⟩ := ms hr491
         simp only [pq, reduceCtorEq]
         rintro rfl
         try simp only [pq, reduceCtorEq]
         exact ZK (key := 1000018) (kq := ⟨[0, 1, 2, 7, 8], [1000000], []⟩) rfl rfl rfl (by simp [-Zd, Zb, und, List.replicate, c429, c443, c445, c490, c492, c498]) (J464 p328 q500)
       ·skip
        rw [if_neg] at hr491
        rotate_left
        ·simp [-Zd, Zb, c429, c443, c445, c490, c492]
        refine Zg (by simp [-Zd, Zb, bV, c429, c443, c445, c490, c492]) ?_
        refine Zo ?_
        obtain ⟨r501, q501, rfl⟩ := ms hr491
        simp only [pq, reduceCtorEq]
        rintro rfl
        try simp only [pq, reduceCtorEq]
        exact ZK (key := 1000018) (kq := ⟨[0, 1, 2, 7, 8], [1000000], []⟩) rfl rfl rfl (by simp [-Zd, Zb, und, List.replicate, c429, c443, c445, c490, c492]) (J464 p328 q501)
      ·skip
       rw [if_neg c490] at hk442
       refine Zg (by simp [-Zd, Zb, bV, c429, c443, c445, c490]) ?_
       refine Zh ?_
       exact ZK (key := 1000018) (kq := ⟨[0, 1, 2, 7, 8], [1000000], []⟩) rfl rfl rfl (by simp [-Zd, Zb, und, List.replicate, c429, c443, c445, c490]) (J464 (((p148).set j449 x448).set j447 x450) hk442)
  ·skip
   intro J442
   simp only [pq, reduceCtorEq] at J442
   refine ZU (kq := ⟨[0, 1, 2, 7, 8], [1000000], []⟩) (H := fun (s : Int) => match s with | p233 => (⟨([.one (.ms 1000000 0 0 (p148.length) 1), .one (.v (.int .i64 a1)), .one (.v (.int .i64 a2))] ++ (und 4 ++ ([.one (.v (.int .i64 p233)), .one (.v (.int .i64 p147))] ++ (und 124))) : List PV), ([(1000000, ⟨0, 1, Zi .u64 p148, false, true⟩)] : Boxes)⟩ : ASt)) (by kernel_rfl) hr428 (by simp [-Zd, Zb, und, List.replicate, c429]) ?_
   rintro p233 x502r hr502
   simp only [Yg] at hr502
   unfold b73_2
   simp only [und, List.replicate, List.cons_append, List.nil_append]
   refine Zf ?_
   by_cases c503 : p233 < a2
   ·skip
    rw [if_pos] at hr502
    rotate_left
    ·simp [-Zd, Zb, c429, c503]
    obtain ⟨z504, hz504, hr502⟩ := bs hr502
    obtain ⟨j505, hj505, hz504⟩ := bs hz504
    obtain ⟨j505a, j505b, j505c⟩ := Zm hj505
    obtain ⟨x506, hx506, hz504⟩ := bs hz504
    have ghx506 := Zq hx506
    obtain ⟨j507, hj507, hz504⟩ := bs hz504
    obtain ⟨j507a, j507b, j507c⟩ := Zm hj507
    obtain ⟨x508, hx508, hz504⟩ := bs hz504
    have ghx508 := Zq hx508
    obtain ⟨y509, hy509, hz504⟩ := bs hz504
    have ehy509 := ZaE hy509
    simp only [E39, R39, nf, nfs] at ehy509
    try simp only [Zb] at ehy509
    obtain rfl := Option.some.inj hz504
    refine Zt rfl (by simp [-Zd, Zb, j505a, j505b, j505c, hx506, ghx506, j507a, j507b, j507c, hx508, ghx508, hO, hT39, ehy509, c429, c503]; first | exact ⟨rfl, rfl⟩ | rfl) (by kernel_rfl) ?_
    by_cases c510 : y509 = true
    ·skip
     rw [if_neg] at hr502
     rotate_left
     ·simp [-Zd, Zb, c429, c503, c510]
     refine Zg (by simp [-Zd, Zb, bV, c429, c503, c510]) ?_
     refine Zo ?_
     obtain ⟨r511, q511, rfl⟩ := ms hr502
     simp only [pq, reduceCtorEq]
     rintro rfl
     try simp only [pq, reduceCtorEq]
     exact ZK (key := 1000007) (kq := ⟨[0, 1, 2, 7, 8], [1000000], []⟩) rfl rfl rfl (by simp [-Zd, Zb, und, List.replicate, c429, c503, c510]) (J442 p233 q511)
    ·skip
     rw [if_pos] at hr502
     rotate_left
     ·simp [-Zd, Zb, c429, c503, c510]
     refine Ze (by simp [-Zd, Zb, bV, c429, c503, c510]) ?_
     refine Zh ?_
     refine YT ?_
     refine ZA rfl (by simp [-Zd, Zb, c429, c503, c510]; rfl) ?_
     obtain rfl := Option.some.inj hr502
     simp only [pq, reduceCtorEq]
     simp [-Zd, Zb, und, List.replicate, Nat.add_assoc, c429, c503, c510]
   ·skip
    rw [if_neg] at hr502
    rotate_left
    ·simp [-Zd, Zb, c429, c503]
    obtain ⟨z512, hz512, hr502⟩ := bs hr502
    obtain rfl := Option.some.inj hz512
    refine Zt rfl (by simp [-Zd, Zb, c429, c503]; first | exact ⟨rfl, rfl⟩ | rfl) (by kernel_rfl) ?_
    rw [if_neg] at hr502
    rotate_left
    ·simp [-Zd, Zb, c429, c503]
    refine Zg (by simp [-Zd, Zb, bV, c429, c503]) ?_
    refine Zo ?_
    obtain ⟨r513, q513, rfl⟩ := ms hr502
    simp only [pq, reduceCtorEq]
    rintro rfl
    try simp only [pq, reduceCtorEq]
    exact ZK (key := 1000007) (kq := ⟨[0, 1, 2, 7, 8], [1000000], []⟩) rfl rfl rfl (by simp [-Zd, Zb, und, List.replicate, c429, c503]) (J442 p233 q513)
 ·skip
  rw [if_neg] at hr428
  rotate_left
  ·simp [-Zd, Zb, c429]
  refine Zg (by simp [-Zd, Zb, bV, c429]) ?_
  refine Zo ?_
  obtain ⟨r514, q514, rfl⟩ := ms hr428
  simp only [pq, reduceCtorEq]
  rintro rfl
  try simp only [pq, reduceCtorEq]
  unfold Xh at q514
  refine Za rfl (by simp [-Zd, Zb, c429]; rfl) ?_
  refine Zx ?_
  obtain ⟨_, u515, q514⟩ := bs q514
  have u515_0 := Zp u515
  obtain rfl := Option.some.inj q514
  simp [-Zd, Zb, Zn, u515_0, c429]
def kp74_8 : Keep := fun i => if i = 1000007 then ⟨[0, 1, 9, 10], [1000000], []⟩ else if i = 5 then ⟨[0, 1, 9, 10], [1000000], []⟩ else if i = 3 then ⟨[0, 1, 9, 10], [1000000], []⟩ else ⟨[], [], []⟩
theorem Zpg {T : Tab} (hO : T.own = fun _ => []) (hT39 : T 39 = some G39) (a0 : (List Int)) (a1 : Int) (a2 : Int) (a3 : Int) (x : Int × (List Int)) (hr : ZW a0 a1 a2 a3 = some x) : ∃ kp fl n, ZI tt T G kp fl n Try.f74 (Zdk (a0, a1, a2, a3)) = some (Zew (a0, a1, a2, a3) x) := by
 simp only [Zdk, Zew]
 refine fnE (kp := kp74_8) (w := false) body74 (by simp) ?_
 unfold c74
 rw [Try.ntmps74]
 unfold ZW at hr
 refine Za rfl (by simp [-Zd, Zb]; rfl) ?_
 obtain ⟨j205, hj205, hr⟩ := bs hr
 obtain ⟨j205a, j205b, j205c⟩ := Zm hj205
 obtain ⟨x206, hx206, hr⟩ := bs hr
 have ghx206 := Zq hx206
 obtain ⟨j207, hj207, hr⟩ := bs hr
 obtain ⟨j207a, j207b, j207c⟩ := Zm hj207
 obtain ⟨x208, hx208, hr⟩ := bs hr
 have ghx208 := Zq hx208
 obtain ⟨j207a, j207b, j207c⟩ := Zm hj207
 obtain ⟨j209, hj209, hr⟩ := bs hr
 obtain ⟨j209a, j209b, j209c⟩ := Zm hj209
 try simp only [List.length_set] at j209c
 obtain rfl : j205 = j209 := j205b.symm.trans j209b
 refine Zt rfl (by simp [-Zd, Zb, j205a, j205b, j205c, hx206, ghx206, j207a, j207b, j207c, hx208, ghx208, j209a, j209b, j209c]; first | exact ⟨rfl, rfl⟩ | rfl) (by kernel_rfl) ?_
 refine Za rfl (by simp [-Zd, Zb]; rfl) ?_
 refine Zk ?_
 refine ZU (kq := ⟨[0, 1, 9, 10], [1000000], []⟩) (H := fun (s : Int × Int × (List Int)) => match s with | (p99, p100, p101) => (⟨([.one (.ms 1000000 0 0 (p101.length) 1), .one (.v (.int .i64 a1))] ++ (und 7 ++ ([.one (.v (.int .i64 p99)), .one (.v (.int .i64 p100))] ++ (und 73))) : List PV), ([(1000000, ⟨0, 1, Zi .u64 p101, false, true⟩)] : Boxes)⟩ : ASt)) (by kernel_rfl) hr (by simp [-Zd, Zb, und, List.replicate, ]) ?_
 rintro ⟨p99, p100, p101⟩ x268r hr268
 simp only [YR] at hr268
 unfold b74_1
 simp only [und, List.replicate, List.cons_append, List.nil_append]
 refine YT ?_
 refine Zk ?_
 refine ZbR hr268 (.exit 2) (fun (s : Int) => match s with | p161 => (⟨([.one (.ms 1000000 0 0 (p101.length) 1), .one (.v (.int .i64 a1))] ++ (und 7 ++ ([.one (.v (.int .i64 p161)), .one (.v (.int .i64 p100))] ++ (und 73))) : List PV), ([(1000000, ⟨0, 1, Zi .u64 p101, false, true⟩)] : Boxes)⟩ : ASt)) (fun (s : Int) => match s with | p161 => Yh p161 p101 a1 a0 p100) ?_ ?_
 ·skip
  rintro p161 hk281
  change Yh p161 p101 a1 a0 p100 = _ at hk281
  simp only [pq, reduceCtorEq]
  simp only [und, List.replicate, List.cons_append, List.nil_append]
  unfold Yh at hk281
  refine Zk ?_
  refine ZbR hk281 (.exit 4) (fun (s : Int) => match s with | p181 => (⟨([.one (.ms 1000000 0 0 (p101.length) 1), .one (.v (.int .i64 a1))] ++ (und 7 ++ ([.one (.v (.int .i64 p161)), .one (.v (.int .i64 p181))] ++ (und 73))) : List PV), ([(1000000, ⟨0, 1, Zi .u64 p101, false, true⟩)] : Boxes)⟩ : ASt)) (fun (s : Int) => match s with | p181 => ZP p181 p161 p101 a0) ?_ ?_
  ·skip
   rintro p181 hk294
   change ZP p181 p161 p101 a0 = _ at hk294
   simp only [pq, reduceCtorEq]
   simp only [und, List.replicate, List.cons_append, List.nil_append]
   unfold ZP at hk294
   refine Zf ?_
   refine Y6 rfl (kq := ⟨[0, 1, 9, 10], [1000000], []⟩) rfl (by simp [Ys, ]; rfl) (by simp [-Zd, Zb]; rfl) ?_
   by_cases c295 : p181 < p161
   ·skip
    rw [if_pos c295] at hk294
    refine Ze (by simp [-Zd, Zb, bV, c295]) ?_
    refine Zo ?_
    obtain ⟨r296, q296, rfl⟩ := ms hk294
    simp only [pq, reduceCtorEq]
    rintro rfl
    try simp only [pq, reduceCtorEq]
    unfold Xt at q296
    refine Za rfl (by simp [-Zd, Zb, c295]; rfl) ?_
    refine Zx ?_
    obtain ⟨_, u297, q296⟩ := bs q296
    have u297_0 := Zp u297
    obtain rfl := Option.some.inj q296
    simp [-Zd, Zb, Zn, u297_0, c295]
   ·skip
    rw [if_neg c295] at hk294
    refine Zg (by simp [-Zd, Zb, bV, c295]) ?_
    refine Zh ?_
    obtain ⟨j298, hj298, hk294⟩ := bs hk294
    obtain ⟨j298a, j298b, j298c⟩ := Zm hj298
    obtain ⟨x299, hx299, hk294⟩ := bs hk294
    have ghx299 := Zq hx299
    obtain ⟨j300, hj300, hk294⟩ := bs hk294
    obtain ⟨j300a, j300b, j300c⟩ := Zm hj300
    obtain ⟨x301, hx301, hk294⟩ := bs hk294
    have ghx301 := Zq hx301
    obtain ⟨j300a, j300b, j300c⟩ := Zm hj300
    obtain ⟨j302, hj302, hk294⟩ := bs hk294
    obtain ⟨j302a, j302b, j302c⟩ := Zm hj302
    try simp only [List.length_set] at j302c
    obtain rfl : j298 = j302 := j298b.symm.trans j302b
    refine Zt rfl (by simp [-Zd, Zb, j298a, j298b, j298c, hx299, ghx299, j300a, j300b, j300c, hx301, ghx301, j302a, j302b, j302c, c295]; first | exact ⟨rfl, rfl⟩ | rfl) (by kernel_rfl) ?_
    refine Za rfl (by simp [-Zd, Zb, c295]; rfl) ?_
    refine ZA rfl (by simp [-Zd, Zb, c295]; rfl) ?_
    obtain rfl := Option.some.inj hk294
    simp only [pq, reduceCtorEq]
    simp [-Zd, Zb, und, List.replicate, Nat.add_assoc, c295]
  ·skip
   intro J294
   simp only [pq, reduceCtorEq] at J294
   refine ZU (kq := ⟨[0, 1, 9, 10], [1000000], []⟩) (H := fun (s : Int) => match s with | p181 => (⟨([.one (.ms 1000000 0 0 (p101.length) 1), .one (.v (.int .i64 a1))] ++ (und 7 ++ ([.one (.v (.int .i64 p161)), .one (.v (.int .i64 p181))] ++ (und 73))) : List PV), ([(1000000, ⟨0, 1, Zi .u64 p101, false, true⟩)] : Boxes)⟩ : ASt)) (by kernel_rfl) hk281 (by simp [-Zd, Zb, und, List.replicate, ]) ?_
   rintro p181 x303r hr303
   simp only [YP] at hr303
   unfold b74_3
   simp only [und, List.replicate, List.cons_append, List.nil_append]
   refine Zf ?_
   by_cases c304 : p161 ≤ p181
   ·skip
    rw [if_pos] at hr303
    rotate_left
    ·simp [-Zd, Zb, c304]
    obtain ⟨z305, hz305, hr303⟩ := bs hr303
    obtain ⟨j306, hj306, hz305⟩ := bs hz305
    obtain ⟨j306a, j306b, j306c⟩ := Zm hj306
    obtain rfl : j207 = j306 := j207b.symm.trans j306b
    obtain ⟨x307, hx307, hz305⟩ := bs hz305
    have ghx307 := Zq hx307
    obtain ⟨j308, hj308, hz305⟩ := bs hz305
    obtain ⟨j308a, j308b, j308c⟩ := Zm hj308
    obtain ⟨x309, hx309, hz305⟩ := bs hz305
    have ghx309 := Zq hx309
    obtain ⟨y310, hy310, hz305⟩ := bs hz305
    have ehy310 := ZaE hy310
    simp only [E39, R39, nf, nfs] at ehy310
    try simp only [Zb] at ehy310
    obtain rfl := Option.some.inj hz305
    refine Zt rfl (by simp [-Zd, Zb, j306a, j306b, j306c, j207a, j207b, j207c, hx307, ghx307, j308a, j308b, j308c, hx309, ghx309, hO, hT39, ehy310, c304]; first | exact ⟨rfl, rfl⟩ | rfl) (by kernel_rfl) ?_
    by_cases c311 : y310 = true
    ·skip
     rw [if_pos] at hr303
     rotate_left
     ·simp [-Zd, Zb, c304, c311]
     refine Ze (by simp [-Zd, Zb, bV, c304, c311]) ?_
     refine Zh ?_
     refine YT ?_
     refine ZA rfl (by simp [-Zd, Zb, c304, c311]; rfl) ?_
     obtain rfl := Option.some.inj hr303
     simp only [pq, reduceCtorEq]
     simp [-Zd, Zb, und, List.replicate, Nat.add_assoc, c304, c311]
    ·skip
     rw [if_neg] at hr303
     rotate_left
     ·simp [-Zd, Zb, c304, c311]
     refine Zg (by simp [-Zd, Zb, bV, c304, c311]) ?_
     refine Zo ?_
     obtain ⟨r312, q312, rfl⟩ := ms hr303
     simp only [pq, reduceCtorEq]
     rintro rfl
     try simp only [pq, reduceCtorEq]
     exact ZK (key := 1000007) (kq := ⟨[0, 1, 9, 10], [1000000], []⟩) rfl rfl rfl (by simp [-Zd, Zb, und, List.replicate, c304, c311]) (J294 p181 q312)
   ·skip
    rw [if_neg] at hr303
    rotate_left
    ·simp [-Zd, Zb, c304]
    obtain ⟨z313, hz313, hr303⟩ := bs hr303
    obtain rfl := Option.some.inj hz313
    refine Zt rfl (by simp [-Zd, Zb, c304]; first | exact ⟨rfl, rfl⟩ | rfl) (by kernel_rfl) ?_
    rw [if_neg] at hr303
    rotate_left
    ·simp [-Zd, Zb, c304]
    refine Zg (by simp [-Zd, Zb, bV, c304]) ?_
    refine Zo ?_
    obtain ⟨r314, q314, rfl⟩ := ms hr303
    simp only [pq, reduceCtorEq]
    rintro rfl
    try simp only [pq, reduceCtorEq]
    exact ZK (key := 1000007) (kq := ⟨[0, 1, 9, 10], [1000000], []⟩) rfl rfl rfl (by simp [-Zd, Zb, und, List.replicate, c304]) (J294 p181 q314)
 ·skip
  intro J281
  simp only [pq, reduceCtorEq] at J281
  refine ZU (kq := ⟨[0, 1, 9, 10], [1000000], []⟩) (H := fun (s : Int) => match s with | p161 => (⟨([.one (.ms 1000000 0 0 (p101.length) 1), .one (.v (.int .i64 a1))] ++ (und 7 ++ ([.one (.v (.int .i64 p161)), .one (.v (.int .i64 p100))] ++ (und 73))) : List PV), ([(1000000, ⟨0, 1, Zi .u64 p101, false, true⟩)] : Boxes)⟩ : ASt)) (by kernel_rfl) hr268 (by simp [-Zd, Zb, und, List.replicate, ]) ?_
  rintro p161 x315r hr315
  simp only [YQ] at hr315
  unfold b74_2
  simp only [und, List.replicate, List.cons_append, List.nil_append]
  refine Zf ?_
  by_cases c316 : p161 ≤ p100
  ·skip
   rw [if_pos] at hr315
   rotate_left
   ·simp [-Zd, Zb, c316]
   obtain ⟨z317, hz317, hr315⟩ := bs hr315
   obtain ⟨j318, hj318, hz317⟩ := bs hz317
   obtain ⟨j318a, j318b, j318c⟩ := Zm hj318
   obtain rfl : j207 = j318 := j207b.symm.trans j318b
   obtain ⟨x319, hx319, hz317⟩ := bs hz317
   have ghx319 := Zq hx319
   obtain ⟨j320, hj320, hz317⟩ := bs hz317
   obtain ⟨j320a, j320b, j320c⟩ := Zm hj320
   obtain ⟨x321, hx321, hz317⟩ := bs hz317
   have ghx321 := Zq hx321
   obtain ⟨y322, hy322, hz317⟩ := bs hz317
   have ehy322 := ZaE hy322
   simp only [E39, R39, nf, nfs] at ehy322
   try simp only [Zb] at ehy322
   obtain rfl := Option.some.inj hz317
   refine Zt rfl (by simp [-Zd, Zb, j318a, j318b, j318c, j207a, j207b, j207c, hx319, ghx319, j320a, j320b, j320c, hx321, ghx321, hO, hT39, ehy322, c316]; first | exact ⟨rfl, rfl⟩ | rfl) (by kernel_rfl) ?_
   by_cases c323 : y322 = true
   ·skip
    rw [if_neg] at hr315
    rotate_left
    ·simp [-Zd, Zb, c316, c323]
    refine Zg (by simp [-Zd, Zb, bV, c316, c323]) ?_
    refine Zo ?_
    obtain ⟨r324, q324, rfl⟩ := ms hr315
    simp only [pq, reduceCtorEq]
    rintro rfl
    try simp only [pq, reduceCtorEq]
    exact ZK (key := 5) (kq := ⟨[0, 1, 9, 10], [1000000], []⟩) rfl rfl rfl (by simp [-Zd, Zb, und, List.replicate, c316, c323]) (J281 p161 q324)
   ·skip
    rw [if_pos] at hr315
    rotate_left
    ·simp [-Zd, Zb, c316, c323]
    refine Ze (by simp [-Zd, Zb, bV, c316, c323]) ?_
    refine Zh ?_
    refine YT ?_
    refine ZA rfl (by simp [-Zd, Zb, c316, c323]; rfl) ?_
    obtain rfl := Option.some.inj hr315
    simp only [pq, reduceCtorEq]
    simp [-Zd, Zb, und, List.replicate, Nat.add_assoc, c316, c323]
  ·skip
   rw [if_neg] at hr315
   rotate_left
   ·simp [-Zd, Zb, c316]
   obtain ⟨z325, hz325, hr315⟩ := bs hr315
   obtain rfl := Option.some.inj hz325
   refine Zt rfl (by simp [-Zd, Zb, c316]; first | exact ⟨rfl, rfl⟩ | rfl) (by kernel_rfl) ?_
   rw [if_neg] at hr315
   rotate_left
   ·simp [-Zd, Zb, c316]
   refine Zg (by simp [-Zd, Zb, bV, c316]) ?_
   refine Zo ?_
   obtain ⟨r326, q326, rfl⟩ := ms hr315
   simp only [pq, reduceCtorEq]
   rintro rfl
   try simp only [pq, reduceCtorEq]
   exact ZK (key := 5) (kq := ⟨[0, 1, 9, 10], [1000000], []⟩) rfl rfl rfl (by simp [-Zd, Zb, und, List.replicate, c316]) (J281 p161 q326)
end Go.Proofs.Ytmjbklblgpnagaa
