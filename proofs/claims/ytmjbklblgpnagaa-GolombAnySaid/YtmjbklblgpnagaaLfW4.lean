import Derived.Test.YtmjbklblgpnagaaLfK
import Derived.Test.YtmjbklblgpnagaaCode
import Derived.Test.YtmjbklblgpnagaaBl
namespace Go.Proofs.Ytmjbklblgpnagaa
open Go.RowKit
open Go.Av
open Go.Lc
set_option maxRecDepth 100000
set_option linter.unusedSimpArgs false
set_option linter.unusedVariables false
set_option maxHeartbeats 4000000
variable {G : Glob}
def kp73_7 : Keep := fun i => if i = 3 then ⟨[0, 1, 2, 7, 8], [1000000], []⟩ else if i = 1000007 then ⟨[0, 1, 2, 7, 8], [1000000], []⟩ else if i = 1000018 then ⟨[0, 1, 2, 7, 8], [1000000], []⟩ else if i = 1000004 then ⟨[0, 1, 2, 7, 8], [1000000], []⟩ else if i = 20 then ⟨[0, 1, 2, 7, 8, 10], [1000000], []⟩ else if i = 14 then ⟨[0, 1, 2, 7, 8, 9], [1000000], []⟩ else if i = 5 then ⟨[0, 1, 2, 7, 8], [1000000], []⟩ else ⟨[], [], []⟩
theorem w73_7 {T : Tab} (hO : T.own = fun _ => []) (hT39 : T 39 = some G39) (a0 : (List Int)) (a1 : Int) (a2 : Int) (x : Bool × (List Int)) (hr : Lslices_partialInsertionSortOrdered_of_uint64 a0 a1 a2 = some x) : ∃ kp fl n, execFn tt T G kp fl n Try.f73 (E73_7 (a0, a1, a2)) = some (R73_7 (a0, a1, a2) x) := by
 simp only [E73_7, R73_7]
 refine fnE (kp := kp73_7) (w := false) body73 (by simp) ?_
 unfold c73
 rw [Try.ntmps73]
 unfold Lslices_partialInsertionSortOrdered_of_uint64 at hr
 refine ee_seq_reg rfl (by simp [-intsR_st, intsR_set]; rfl) ?_
 refine ee_seq_reg rfl (by simp [-intsR_st, intsR_set]; rfl) ?_
 refine ee_assoc ?_
 refine ee_seq_reg rfl (by simp [-intsR_st, intsR_set]; rfl) ?_
 refine ee_seq_block ?_
 refine ee_loop (kq := ⟨[0, 1, 2, 7, 8], [1000000], []⟩) (H := fun (s : Int × Int × (List Int)) => match s with | (p146, p147, p148) => (⟨([.one (.ms 1000000 0 0 (p148.length) 1), .one (.v (.int .i64 a1)), .one (.v (.int .i64 a2))] ++ (und 4 ++ ([.one (.v (.int .i64 p146)), .one (.v (.int .i64 p147))] ++ (und 124))) : List PV), ([(1000000, ⟨0, 1, intsR .u64 p148, false, true⟩)] : Boxes)⟩ : ASt)) (by kernel_rfl) hr (by simp [-intsR_st, intsR_set, und, List.replicate, ]) ?_
 rintro ⟨p146, p147, p148⟩ x428r hr428
 simp only [Lslices_partialInsertionSortOrdered_of_uint64_s1] at hr428
 unfold b73_1
 simp only [und, List.replicate, List.cons_append, List.nil_append]
 refine ee_assoc ?_
 refine ee_seq_reg rfl (by simp [-intsR_st, intsR_set]; rfl) ?_
 by_cases c429 : p147 < 5
 ·skip
  rw [if_pos] at hr428
  rotate_left
  ·simp [-intsR_st, intsR_set, c429]
  refine ee_seq_condT (by simp [-intsR_st, intsR_set, bV, c429]) ?_
  refine ee_seq_skip ?_
  refine ee_seq_block ?_
  refine ee_seq_block ?_
  refine ee_J hr428 (.exit 2) (fun (s : Int) => match s with | p233 => (⟨([.one (.ms 1000000 0 0 (p148.length) 1), .one (.v (.int .i64 a1)), .one (.v (.int .i64 a2))] ++ (und 4 ++ ([.one (.v (.int .i64 p233)), .one (.v (.int .i64 p147))] ++ (und 124))) : List PV), ([(1000000, ⟨0, 1, intsR .u64 p148, false, true⟩)] : Boxes)⟩ : ASt)) (fun (s : Int) => match s with | p233 => Lslices_partialInsertionSortOrdered_of_uint64_k2 p233 a2 p148 a0 a1 p147) ?_ ?_
  ·skip
   rintro p233 hk442
   change Lslices_partialInsertionSortOrdered_of_uint64_k2 p233 a2 p148 a0 a1 p147 = _ at hk442
   simp only [pq, reduceCtorEq]
   simp only [und, List.replicate, List.cons_append, List.nil_append]
   unfold Lslices_partialInsertionSortOrdered_of_uint64_k2 at hk442
   refine ee_assoc ?_
   refine ee_seq_regJ rfl (kq := ⟨[0, 1, 2, 7, 8], [1000000], []⟩) rfl (by simp [-intsR_st, intsR_set, joinSt, c429]; rfl) (by simp [-intsR_st, intsR_set, c429]; rfl) ?_
   by_cases c443 : p233 = a2
   ·skip
    rw [if_pos c443] at hk442
    refine ee_seq_condT (by simp [-intsR_st, intsR_set, bV, c429, eq_true c443]) ?_
    refine ee_assoc ?_
    refine ee_seq_reg rfl (by simp [-intsR_st, intsR_set, c429, eq_true c443]; rfl) ?_
    refine ee_seq_ret ?_
    obtain ⟨_, u444, hk442⟩ := bs hk442
    have u444_0 := chk_some u444
    obtain rfl := Option.some.inj hk442
    simp only [pq, reduceCtorEq]
    rintro rfl
    simp [-intsR_st, intsR_set, FinQ, u444_0, c429, eq_true c443]
   ·skip
    rw [if_neg c443] at hk442
    refine ee_seq_condF (by simp [-intsR_st, intsR_set, bV, c429, c443]) ?_
    refine ee_seq_skip ?_
    refine ee_assoc ?_
    refine ee_seq_reg rfl (by simp [-intsR_st, intsR_set, c429, c443]; rfl) ?_
    by_cases c445 : IntKind.i64.wrap (a2 - a1) < 50
    ·skip
     rw [if_pos c445] at hk442
     refine ee_seq_condT (by simp [-intsR_st, intsR_set, bV, c429, c443, c445]) ?_
     refine ee_assoc ?_
     refine ee_seq_reg rfl (by simp [-intsR_st, intsR_set, c429, c443, c445]; rfl) ?_
     refine ee_seq_ret ?_
     obtain ⟨_, u446, hk442⟩ := bs hk442
     have u446_0 := chk_some u446
     obtain rfl := Option.some.inj hk442
     simp only [pq, reduceCtorEq]
     rintro rfl
     simp [-intsR_st, intsR_set, FinQ, u446_0, c429, c443, c445]
    ·skip
     rw [if_neg c445] at hk442
     refine ee_seq_condF (by simp [-intsR_st, intsR_set, bV, c429, c443, c445]) ?_
     refine ee_seq_skip ?_
     obtain ⟨j447, hj447, hk442⟩ := bs hk442
     obtain ⟨j447a, j447b, j447c⟩ := inA_some hj447
     obtain ⟨x448, hx448, hk442⟩ := bs hk442
     have ghx448 := getE_of hx448
     obtain ⟨j449, hj449, hk442⟩ := bs hk442
     obtain ⟨j449a, j449b, j449c⟩ := inA_some hj449
     obtain ⟨x450, hx450, hk442⟩ := bs hk442
     have ghx450 := getE_of hx450
     obtain ⟨j449a, j449b, j449c⟩ := inA_some hj449
     obtain ⟨j451, hj451, hk442⟩ := bs hk442
     obtain ⟨j451a, j451b, j451c⟩ := inA_some hj451
     try simp only [List.length_set] at j451c
     obtain rfl : j447 = j451 := j447b.symm.trans j451b
     refine ee_seq_draw rfl (by simp [-intsR_st, intsR_set, j447a, j447b, j447c, hx448, ghx448, j449a, j449b, j449c, hx450, ghx450, j451a, j451b, j451c, c429, c443, c445]; first | exact ⟨rfl, rfl⟩ | rfl) (by kernel_rfl) ?_
     refine ee_assoc ?_
     refine ee_seq_reg rfl (by simp [-intsR_st, intsR_set, c429, c443, c445]; rfl) ?_
     refine ee_seq_J hk442 (fun (s : (List Int)) => match s with | p267 => (⟨([.one (.ms 1000000 0 0 (p267.length) 1), .one (.v (.int .i64 a1)), .one (.v (.int .i64 a2))] ++ (und 4 ++ ([.one (.v (.int .i64 p233)), .one (.v (.int .i64 p147))] ++ (und 124))) : List PV), ([(1000000, ⟨0, 1, intsR .u64 p267, false, true⟩)] : Boxes)⟩ : ASt)) (fun (s : (List Int)) => match s with | p267 => Lslices_partialInsertionSortOrdered_of_uint64_k3 a2 p233 p147 p267) ?_ ?_
     ·skip
      rintro p267 hk464
      change Lslices_partialInsertionSortOrdered_of_uint64_k3 a2 p233 p147 p267 = _ at hk464
      simp only [und, List.replicate, List.cons_append, List.nil_append]
      unfold Lslices_partialInsertionSortOrdered_of_uint64_k3 at hk464
      refine ee_seq_regJ rfl (kq := ⟨[0, 1, 2, 7, 8], [1000000], []⟩) rfl (by simp [-intsR_st, intsR_set, joinSt, c429, c443, c445]; rfl) (by simp [-intsR_st, intsR_set, c429, c443, c445]; rfl) ?_
      refine ee_J hk464 (.normal) (fun (s : (List Int)) => match s with | p290 => (⟨([.one (.ms 1000000 0 0 (p290.length) 1), .one (.v (.int .i64 a1)), .one (.v (.int .i64 a2))] ++ (und 4 ++ ([.one (.v (.int .i64 p233)), .one (.v (.int .i64 p147))] ++ (und 124))) : List PV), ([(1000000, ⟨0, 1, intsR .u64 p290, false, true⟩)] : Boxes)⟩ : ASt)) (fun (s : (List Int)) => match s with | p290 => Lslices_partialInsertionSortOrdered_of_uint64_k4 p233 p147 p290) ?_ ?_
      ·skip
       rintro p290 hk477
       change Lslices_partialInsertionSortOrdered_of_uint64_k4 p233 p147 p290 = _ at hk477
       simp only [pq, reduceCtorEq]
       simp only [und, List.replicate, List.cons_append, List.nil_append]
       unfold Lslices_partialInsertionSortOrdered_of_uint64_k4 at hk477
       refine ee_regJ rfl (kq := ⟨[0, 1, 2, 7, 8], [1000000], []⟩) rfl (by simp [-intsR_st, intsR_set, joinSt, c429, c443, c445]; rfl) (by simp [-intsR_st, intsR_set, c429, c443, c445]; rfl) ?_
       obtain rfl := Option.some.inj hk477
       simp only [pq, reduceCtorEq]
       simp [-intsR_st, intsR_set, und, List.replicate, Nat.add_assoc, c429, c443, c445]
      ·skip
       intro J477
       simp only [pq, reduceCtorEq] at J477
       by_cases c478 : 2 ≤ IntKind.i64.wrap (a2 - p233)
       ·skip
        rw [if_pos c478] at hk464
        refine ee_condT (by simp [-intsR_st, intsR_set, bV, c429, c443, c445, c478]) ?_
        refine ee_seq_reg rfl (by simp [-intsR_st, intsR_set, c429, c443, c445, c478]; rfl) ?_
        refine ee_block ?_
        refine ee_loop (kq := ⟨[0, 1, 2, 7, 8, 10], [1000000], []⟩) (H := fun (s : Int × (List Int)) => match s with | (p305, p306) => (⟨([.one (.ms 1000000 0 0 (p306.length) 1), .one (.v (.int .i64 a1)), .one (.v (.int .i64 a2))] ++ (und 4 ++ ([.one (.v (.int .i64 p233)), .one (.v (.int .i64 p147))] ++ (und 1 ++ ([.one (.v (.int .i64 p305))] ++ (und 122))))) : List PV), ([(1000000, ⟨0, 1, intsR .u64 p306, false, true⟩)] : Boxes)⟩ : ASt)) (by kernel_rfl) hk464 (by simp [-intsR_st, intsR_set, und, List.replicate, c429, c443, c445, c478]) ?_
        rintro ⟨p305, p306⟩ x479r hr479
        simp only [Lslices_partialInsertionSortOrdered_of_uint64_s3] at hr479
        unfold b73_4
        simp only [und, List.replicate, List.cons_append, List.nil_append]
        refine ee_assoc ?_
        refine ee_seq_reg rfl (by simp [-intsR_st, intsR_set, c429, c443, c445, c478]; rfl) ?_
        by_cases c480 : p305 < a2
        ·skip
         rw [if_pos] at hr479
         rotate_left
         ·simp [-intsR_st, intsR_set, c429, c443, c445, c478, c480]
         refine ee_seq_condT (by simp [-intsR_st, intsR_set, bV, c429, c443, c445, c478, c480]) ?_
         refine ee_seq_skip ?_
         refine ee_seq_block ?_
         refine ee_assoc ?_
         obtain ⟨j481, hj481, hr479⟩ := bs hr479
         obtain ⟨j481a, j481b, j481c⟩ := inA_some hj481
         obtain ⟨x482, hx482, hr479⟩ := bs hr479
         have ghx482 := getE_of hx482
         obtain ⟨j483, hj483, hr479⟩ := bs hr479
         obtain ⟨j483a, j483b, j483c⟩ := inA_some hj483
         obtain ⟨x484, hx484, hr479⟩ := bs hr479
         have ghx484 := getE_of hx484
         obtain ⟨y485, hy485, hr479⟩ := bs hr479
         have ehy485 := G39_eq hy485
         simp only [E39, R39, nf, nfs] at ehy485
         try simp only [intsR_set] at ehy485
         refine ee_seq_draw rfl (by simp [-intsR_st, intsR_set, j481a, j481b, j481c, hx482, ghx482, j483a, j483b, j483c, hx484, ghx484, hO, hT39, ehy485, c429, c443, c445, c478, c480]; first | exact ⟨rfl, rfl⟩ | rfl) (by kernel_rfl) ?_
         by_cases c486 : y485 = true
         ·skip
          rw [if_neg (not_not_intro c486)] at hr479
          refine ee_seq_condF (by simp [-intsR_st, intsR_set, bV, c429, c443, c445, c478, c480, c486]) ?_
          refine ee_seq_skip ?_
          obtain ⟨j483a, j483b, j483c⟩ := inA_some hj483
          have ghx484 := getE_of hx484
          obtain ⟨j481a, j481b, j481c⟩ := inA_some hj481
          have ghx482 := getE_of hx482
          obtain ⟨j481a, j481b, j481c⟩ := inA_some hj481
          obtain ⟨j487, hj487, hr479⟩ := bs hr479
          obtain ⟨j487a, j487b, j487c⟩ := inA_some hj487
          try simp only [List.length_set] at j487c
          obtain rfl : j483 = j487 := j483b.symm.trans j487b
          refine ee_draw rfl (by simp [-intsR_st, intsR_set, j483a, j483b, j483c, hx484, ghx484, j481a, j481b, j481c, hx482, ghx482, j487a, j487b, j487c, c429, c443, c445, c478, c480, c486]; first | exact ⟨rfl, rfl⟩ | rfl) (by kernel_rfl) ?_
          simp only [pq, reduceCtorEq]
          refine ee_reg rfl (by simp [-intsR_st, intsR_set, c429, c443, c445, c478, c480, c486]; rfl) ?_
          obtain rfl := Option.some.inj hr479
          simp only [pq, reduceCtorEq]
          simp [-intsR_st, intsR_set, und, List.replicate, Nat.add_assoc, c429, c443, c445, c478, c480, c486]
         ·skip
          rw [if_pos c486] at hr479
          refine ee_seq_condT (by simp [-intsR_st, intsR_set, bV, c429, c443, c445, c478, c480, c486]) ?_
          refine ee_seq_exit ?_
          obtain ⟨r488, q488, rfl⟩ := ms hr479
          simp only [pq, reduceCtorEq]
          rintro rfl
          try simp only [pq, reduceCtorEq]
          exact ee_join (key := 1000004) (kq := ⟨[0, 1, 2, 7, 8], [1000000], []⟩) rfl rfl rfl (by simp [-intsR_st, intsR_set, und, List.replicate, c429, c443, c445, c478, c480, c486]) (J477 p306 q488)
        ·skip
         rw [if_neg] at hr479
         rotate_left
         ·simp [-intsR_st, intsR_set, c429, c443, c445, c478, c480]
         refine ee_seq_condF (by simp [-intsR_st, intsR_set, bV, c429, c443, c445, c478, c480]) ?_
         refine ee_seq_exit ?_
         obtain ⟨r489, q489, rfl⟩ := ms hr479
         simp only [pq, reduceCtorEq]
         rintro rfl
         try simp only [pq, reduceCtorEq]
         exact ee_join (key := 1000004) (kq := ⟨[0, 1, 2, 7, 8], [1000000], []⟩) rfl rfl rfl (by simp [-intsR_st, intsR_set, und, List.replicate, c429, c443, c445, c478, c480]) (J477 p306 q489)
       ·skip
        rw [if_neg c478] at hk464
        refine ee_condF (by simp [-intsR_st, intsR_set, bV, c429, c443, c445, c478]) ?_
        refine ee_skip ?_
        simp only [pq, reduceCtorEq]
        exact ee_join (key := 1000004) (kq := ⟨[0, 1, 2, 7, 8], [1000000], []⟩) rfl rfl rfl (by simp [-intsR_st, intsR_set, und, List.replicate, c429, c443, c445, c478]) (J477 p267 hk464)
     ·skip
      intro J464
      by_cases c490 : 2 ≤ IntKind.i64.wrap (p233 - a1)
      ·skip
       rw [if_pos c490] at hk442
       refine ee_seq_condT (by simp [-intsR_st, intsR_set, bV, c429, c443, c445, c490]) ?_
       refine ee_assoc ?_
       refine ee_seq_reg rfl (by simp [-intsR_st, intsR_set, c429, c443, c445, c490]; rfl) ?_
       refine ee_seq_block ?_
       refine ee_loop (kq := ⟨[0, 1, 2, 7, 8, 9], [1000000], []⟩) (H := fun (s : Int × (List Int)) => match s with | (p327, p328) => (⟨([.one (.ms 1000000 0 0 (p328.length) 1), .one (.v (.int .i64 a1)), .one (.v (.int .i64 a2))] ++ (und 4 ++ ([.one (.v (.int .i64 p233)), .one (.v (.int .i64 p147)), .one (.v (.int .i64 p327))] ++ (und 123))) : List PV), ([(1000000, ⟨0, 1, intsR .u64 p328, false, true⟩)] : Boxes)⟩ : ASt)) (by kernel_rfl) hk442 (by simp [-intsR_st, intsR_set, und, List.replicate, c429, c443, c445, c490]) ?_
       rintro ⟨p327, p328⟩ x491r hr491
       simp only [Lslices_partialInsertionSortOrdered_of_uint64_s4] at hr491
       unfold b73_3
       simp only [und, List.replicate, List.cons_append, List.nil_append]
       refine ee_assoc ?_
       refine ee_seq_reg rfl (by simp [-intsR_st, intsR_set, c429, c443, c445, c490]; rfl) ?_
       by_cases c492 : 1 ≤ p327
       ·skip
        rw [if_pos] at hr491
        rotate_left
        ·simp [-intsR_st, intsR_set, c429, c443, c445, c490, c492]
        refine ee_seq_condT (by simp [-intsR_st, intsR_set, bV, c429, c443, c445, c490, c492]) ?_
        refine ee_seq_skip ?_
        refine ee_seq_block ?_
        refine ee_assoc ?_
        obtain ⟨j493, hj493, hr491⟩ := bs hr491
        obtain ⟨j493a, j493b, j493c⟩ := inA_some hj493
        obtain ⟨x494, hx494, hr491⟩ := bs hr491
        have ghx494 := getE_of hx494
        obtain ⟨j495, hj495, hr491⟩ := bs hr491
        obtain ⟨j495a, j495b, j495c⟩ := inA_some hj495
        obtain ⟨x496, hx496, hr491⟩ := bs hr491
        have ghx496 := getE_of hx496
        obtain ⟨y497, hy497, hr491⟩ := bs hr491
        have ehy497 := G39_eq hy497
        simp only [E39, R39, nf, nfs] at ehy497
        try simp only [intsR_set] at ehy497
        refine ee_seq_draw rfl (by simp [-intsR_st, intsR_set, j493a, j493b, j493c, hx494, ghx494, j495a, j495b, j495c, hx496, ghx496, hO, hT39, ehy497, c429, c443, c445, c490, c492]; first | exact ⟨rfl, rfl⟩ | rfl) (by kernel_rfl) ?_
        by_cases c498 : y497 = true
        ·skip
         rw [if_neg (not_not_intro c498)] at hr491
         refine ee_seq_condF (by simp [-intsR_st, intsR_set, bV, c429, c443, c445, c490, c492, c498]) ?_
         refine ee_seq_skip ?_
         obtain ⟨j495a, j495b, j495c⟩ := inA_some hj495
         have ghx496 := getE_of hx496
         obtain ⟨j493a, j493b, j493c⟩ := inA_some hj493
         have ghx494 := getE_of hx494
         obtain ⟨j493a, j493b, j493c⟩ := inA_some hj493
         obtain ⟨j499, hj499, hr491⟩ := bs hr491
         obtain ⟨j499a, j499b, j499c⟩ := inA_some hj499
         try simp only [List.length_set] at j499c
         obtain rfl : j495 = j499 := j495b.symm.trans j499b
         refine ee_draw rfl (by simp [-intsR_st, intsR_set, j495a, j495b, j495c, hx496, ghx496, j493a, j493b, j493c, hx494, ghx494, j499a, j499b, j499c, c429, c443, c445, c490, c492, c498]; first | exact ⟨rfl, rfl⟩ | rfl) (by kernel_rfl) ?_
         simp only [pq, reduceCtorEq]
         refine ee_reg rfl (by simp [-intsR_st, intsR_set, c429, c443, c445, c490, c492, c498]; rfl) ?_
         obtain rfl := Option.some.inj hr491
         simp only [pq, reduceCtorEq]
         simp [-intsR_st, intsR_set, und, List.replicate, Nat.add_assoc, c429, c443, c445, c490, c492, c498]
        ·skip
         rw [if_pos c498] at hr491
         refine ee_seq_condT (by simp [-intsR_st, intsR_set, bV, c429, c443, c445, c490, c492, c498]) ?_
         refine ee_seq_exit ?_
         obtain ⟨r500, q500, rfl⟩ := ms hr491
         simp only [pq, reduceCtorEq]
         rintro rfl
         try simp only [pq, reduceCtorEq]
         exact ee_join (key := 1000018) (kq := ⟨[0, 1, 2, 7, 8], [1000000], []⟩) rfl rfl rfl (by simp [-intsR_st, intsR_set, und, List.replicate, c429, c443, c445, c490, c492, c498]) (J464 p328 q500)
       ·skip
        rw [if_neg] at hr491
        rotate_left
        ·simp [-intsR_st, intsR_set, c429, c443, c445, c490, c492]
        refine ee_seq_condF (by simp [-intsR_st, intsR_set, bV, c429, c443, c445, c490, c492]) ?_
        refine ee_seq_exit ?_
        obtain ⟨r501, q501, rfl⟩ := ms hr491
        simp only [pq, reduceCtorEq]
        rintro rfl
        try simp only [pq, reduceCtorEq]
        exact ee_join (key := 1000018) (kq := ⟨[0, 1, 2, 7, 8], [1000000], []⟩) rfl rfl rfl (by simp [-intsR_st, intsR_set, und, List.replicate, c429, c443, c445, c490, c492]) (J464 p328 q501)
      ·skip
       rw [if_neg c490] at hk442
       refine ee_seq_condF (by simp [-intsR_st, intsR_set, bV, c429, c443, c445, c490]) ?_
       refine ee_seq_skip ?_
       exact ee_join (key := 1000018) (kq := ⟨[0, 1, 2, 7, 8], [1000000], []⟩) rfl rfl rfl (by simp [-intsR_st, intsR_set, und, List.replicate, c429, c443, c445, c490]) (J464 (((p148).set j449 x448).set j447 x450) hk442)
  ·skip
   intro J442
   simp only [pq, reduceCtorEq] at J442
   refine ee_loop (kq := ⟨[0, 1, 2, 7, 8], [1000000], []⟩) (H := fun (s : Int) => match s with | p233 => (⟨([.one (.ms 1000000 0 0 (p148.length) 1), .one (.v (.int .i64 a1)), .one (.v (.int .i64 a2))] ++ (und 4 ++ ([.one (.v (.int .i64 p233)), .one (.v (.int .i64 p147))] ++ (und 124))) : List PV), ([(1000000, ⟨0, 1, intsR .u64 p148, false, true⟩)] : Boxes)⟩ : ASt)) (by kernel_rfl) hr428 (by simp [-intsR_st, intsR_set, und, List.replicate, c429]) ?_
   rintro p233 x502r hr502
   simp only [Lslices_partialInsertionSortOrdered_of_uint64_s2] at hr502
   unfold b73_2
   simp only [und, List.replicate, List.cons_append, List.nil_append]
   refine ee_assoc ?_
   by_cases c503 : p233 < a2
   ·skip
    rw [if_pos] at hr502
    rotate_left
    ·simp [-intsR_st, intsR_set, c429, c503]
    obtain ⟨z504, hz504, hr502⟩ := bs hr502
    obtain ⟨j505, hj505, hz504⟩ := bs hz504
    obtain ⟨j505a, j505b, j505c⟩ := inA_some hj505
    obtain ⟨x506, hx506, hz504⟩ := bs hz504
    have ghx506 := getE_of hx506
    obtain ⟨j507, hj507, hz504⟩ := bs hz504
    obtain ⟨j507a, j507b, j507c⟩ := inA_some hj507
    obtain ⟨x508, hx508, hz504⟩ := bs hz504
    have ghx508 := getE_of hx508
    obtain ⟨y509, hy509, hz504⟩ := bs hz504
    have ehy509 := G39_eq hy509
    simp only [E39, R39, nf, nfs] at ehy509
    try simp only [intsR_set] at ehy509
    obtain rfl := Option.some.inj hz504
    refine ee_seq_draw rfl (by simp [-intsR_st, intsR_set, j505a, j505b, j505c, hx506, ghx506, j507a, j507b, j507c, hx508, ghx508, hO, hT39, ehy509, c429, c503]; first | exact ⟨rfl, rfl⟩ | rfl) (by kernel_rfl) ?_
    by_cases c510 : y509 = true
    ·skip
     rw [if_neg] at hr502
     rotate_left
     ·simp [-intsR_st, intsR_set, c429, c503, c510]
     refine ee_seq_condF (by simp [-intsR_st, intsR_set, bV, c429, c503, c510]) ?_
     refine ee_seq_exit ?_
     obtain ⟨r511, q511, rfl⟩ := ms hr502
     simp only [pq, reduceCtorEq]
     rintro rfl
     try simp only [pq, reduceCtorEq]
     exact ee_join (key := 1000007) (kq := ⟨[0, 1, 2, 7, 8], [1000000], []⟩) rfl rfl rfl (by simp [-intsR_st, intsR_set, und, List.replicate, c429, c503, c510]) (J442 p233 q511)
    ·skip
     rw [if_pos] at hr502
     rotate_left
     ·simp [-intsR_st, intsR_set, c429, c503, c510]
     refine ee_seq_condT (by simp [-intsR_st, intsR_set, bV, c429, c503, c510]) ?_
     refine ee_seq_skip ?_
     refine ee_block ?_
     refine ee_reg rfl (by simp [-intsR_st, intsR_set, c429, c503, c510]; rfl) ?_
     obtain rfl := Option.some.inj hr502
     simp only [pq, reduceCtorEq]
     simp [-intsR_st, intsR_set, und, List.replicate, Nat.add_assoc, c429, c503, c510]
   ·skip
    rw [if_neg] at hr502
    rotate_left
    ·simp [-intsR_st, intsR_set, c429, c503]
    obtain ⟨z512, hz512, hr502⟩ := bs hr502
    obtain rfl := Option.some.inj hz512
    refine ee_seq_draw rfl (by simp [-intsR_st, intsR_set, c429, c503]; first | exact ⟨rfl, rfl⟩ | rfl) (by kernel_rfl) ?_
    rw [if_neg] at hr502
    rotate_left
    ·simp [-intsR_st, intsR_set, c429, c503]
    refine ee_seq_condF (by simp [-intsR_st, intsR_set, bV, c429, c503]) ?_
    refine ee_seq_exit ?_
    obtain ⟨r513, q513, rfl⟩ := ms hr502
    simp only [pq, reduceCtorEq]
    rintro rfl
    try simp only [pq, reduceCtorEq]
    exact ee_join (key := 1000007) (kq := ⟨[0, 1, 2, 7, 8], [1000000], []⟩) rfl rfl rfl (by simp [-intsR_st, intsR_set, und, List.replicate, c429, c503]) (J442 p233 q513)
 ·skip
  rw [if_neg] at hr428
  rotate_left
  ·simp [-intsR_st, intsR_set, c429]
  refine ee_seq_condF (by simp [-intsR_st, intsR_set, bV, c429]) ?_
  refine ee_seq_exit ?_
  obtain ⟨r514, q514, rfl⟩ := ms hr428
  simp only [pq, reduceCtorEq]
  rintro rfl
  try simp only [pq, reduceCtorEq]
  unfold Lslices_partialInsertionSortOrdered_of_uint64_k1 at q514
  refine ee_seq_reg rfl (by simp [-intsR_st, intsR_set, c429]; rfl) ?_
  refine ee_ret ?_
  obtain ⟨_, u515, q514⟩ := bs q514
  have u515_0 := chk_some u515
  obtain rfl := Option.some.inj q514
  simp [-intsR_st, intsR_set, FinQ, u515_0, c429]
def kp74_8 : Keep := fun i => if i = 1000007 then ⟨[0, 1, 9, 10], [1000000], []⟩ else if i = 5 then ⟨[0, 1, 9, 10], [1000000], []⟩ else if i = 3 then ⟨[0, 1, 9, 10], [1000000], []⟩ else ⟨[], [], []⟩
theorem w74_8 {T : Tab} (hO : T.own = fun _ => []) (hT39 : T 39 = some G39) (a0 : (List Int)) (a1 : Int) (a2 : Int) (a3 : Int) (x : Int × (List Int)) (hr : Lslices_partitionEqualOrdered_of_uint64 a0 a1 a2 a3 = some x) : ∃ kp fl n, execFn tt T G kp fl n Try.f74 (E74_8 (a0, a1, a2, a3)) = some (R74_8 (a0, a1, a2, a3) x) := by
 simp only [E74_8, R74_8]
 refine fnE (kp := kp74_8) (w := false) body74 (by simp) ?_
 unfold c74
 rw [Try.ntmps74]
 unfold Lslices_partitionEqualOrdered_of_uint64 at hr
 refine ee_seq_reg rfl (by simp [-intsR_st, intsR_set]; rfl) ?_
 obtain ⟨j205, hj205, hr⟩ := bs hr
 obtain ⟨j205a, j205b, j205c⟩ := inA_some hj205
 obtain ⟨x206, hx206, hr⟩ := bs hr
 have ghx206 := getE_of hx206
 obtain ⟨j207, hj207, hr⟩ := bs hr
 obtain ⟨j207a, j207b, j207c⟩ := inA_some hj207
 obtain ⟨x208, hx208, hr⟩ := bs hr
 have ghx208 := getE_of hx208
 obtain ⟨j207a, j207b, j207c⟩ := inA_some hj207
 obtain ⟨j209, hj209, hr⟩ := bs hr
 obtain ⟨j209a, j209b, j209c⟩ := inA_some hj209
 try simp only [List.length_set] at j209c
 obtain rfl : j205 = j209 := j205b.symm.trans j209b
 refine ee_seq_draw rfl (by simp [-intsR_st, intsR_set, j205a, j205b, j205c, hx206, ghx206, j207a, j207b, j207c, hx208, ghx208, j209a, j209b, j209c]; first | exact ⟨rfl, rfl⟩ | rfl) (by kernel_rfl) ?_
 refine ee_seq_reg rfl (by simp [-intsR_st, intsR_set]; rfl) ?_
 refine ee_seq_block ?_
 refine ee_loop (kq := ⟨[0, 1, 9, 10], [1000000], []⟩) (H := fun (s : Int × Int × (List Int)) => match s with | (p99, p100, p101) => (⟨([.one (.ms 1000000 0 0 (p101.length) 1), .one (.v (.int .i64 a1))] ++ (und 7 ++ ([.one (.v (.int .i64 p99)), .one (.v (.int .i64 p100))] ++ (und 73))) : List PV), ([(1000000, ⟨0, 1, intsR .u64 p101, false, true⟩)] : Boxes)⟩ : ASt)) (by kernel_rfl) hr (by simp [-intsR_st, intsR_set, und, List.replicate, ]) ?_
 rintro ⟨p99, p100, p101⟩ x268r hr268
 simp only [Lslices_partitionEqualOrdered_of_uint64_s1] at hr268
 unfold b74_1
 simp only [und, List.replicate, List.cons_append, List.nil_append]
 refine ee_block ?_
 refine ee_seq_block ?_
 refine ee_J hr268 (.exit 2) (fun (s : Int) => match s with | p161 => (⟨([.one (.ms 1000000 0 0 (p101.length) 1), .one (.v (.int .i64 a1))] ++ (und 7 ++ ([.one (.v (.int .i64 p161)), .one (.v (.int .i64 p100))] ++ (und 73))) : List PV), ([(1000000, ⟨0, 1, intsR .u64 p101, false, true⟩)] : Boxes)⟩ : ASt)) (fun (s : Int) => match s with | p161 => Lslices_partitionEqualOrdered_of_uint64_k2 p161 p101 a1 a0 p100) ?_ ?_
 ·skip
  rintro p161 hk281
  change Lslices_partitionEqualOrdered_of_uint64_k2 p161 p101 a1 a0 p100 = _ at hk281
  simp only [pq, reduceCtorEq]
  simp only [und, List.replicate, List.cons_append, List.nil_append]
  unfold Lslices_partitionEqualOrdered_of_uint64_k2 at hk281
  refine ee_seq_block ?_
  refine ee_J hk281 (.exit 4) (fun (s : Int) => match s with | p181 => (⟨([.one (.ms 1000000 0 0 (p101.length) 1), .one (.v (.int .i64 a1))] ++ (und 7 ++ ([.one (.v (.int .i64 p161)), .one (.v (.int .i64 p181))] ++ (und 73))) : List PV), ([(1000000, ⟨0, 1, intsR .u64 p101, false, true⟩)] : Boxes)⟩ : ASt)) (fun (s : Int) => match s with | p181 => Lslices_partitionEqualOrdered_of_uint64_k3 p181 p161 p101 a0) ?_ ?_
  ·skip
   rintro p181 hk294
   change Lslices_partitionEqualOrdered_of_uint64_k3 p181 p161 p101 a0 = _ at hk294
   simp only [pq, reduceCtorEq]
   simp only [und, List.replicate, List.cons_append, List.nil_append]
   unfold Lslices_partitionEqualOrdered_of_uint64_k3 at hk294
   refine ee_assoc ?_
   refine ee_seq_regJ rfl (kq := ⟨[0, 1, 9, 10], [1000000], []⟩) rfl (by simp [joinSt, ]; rfl) (by simp [-intsR_st, intsR_set]; rfl) ?_
   by_cases c295 : p181 < p161
   ·skip
    rw [if_pos c295] at hk294
    refine ee_seq_condT (by simp [-intsR_st, intsR_set, bV, c295]) ?_
    refine ee_seq_exit ?_
    obtain ⟨r296, q296, rfl⟩ := ms hk294
    simp only [pq, reduceCtorEq]
    rintro rfl
    try simp only [pq, reduceCtorEq]
    unfold Lslices_partitionEqualOrdered_of_uint64_k1 at q296
    refine ee_seq_reg rfl (by simp [-intsR_st, intsR_set, c295]; rfl) ?_
    refine ee_ret ?_
    obtain ⟨_, u297, q296⟩ := bs q296
    have u297_0 := chk_some u297
    obtain rfl := Option.some.inj q296
    simp [-intsR_st, intsR_set, FinQ, u297_0, c295]
   ·skip
    rw [if_neg c295] at hk294
    refine ee_seq_condF (by simp [-intsR_st, intsR_set, bV, c295]) ?_
    refine ee_seq_skip ?_
    obtain ⟨j298, hj298, hk294⟩ := bs hk294
    obtain ⟨j298a, j298b, j298c⟩ := inA_some hj298
    obtain ⟨x299, hx299, hk294⟩ := bs hk294
    have ghx299 := getE_of hx299
    obtain ⟨j300, hj300, hk294⟩ := bs hk294
    obtain ⟨j300a, j300b, j300c⟩ := inA_some hj300
    obtain ⟨x301, hx301, hk294⟩ := bs hk294
    have ghx301 := getE_of hx301
    obtain ⟨j300a, j300b, j300c⟩ := inA_some hj300
    obtain ⟨j302, hj302, hk294⟩ := bs hk294
    obtain ⟨j302a, j302b, j302c⟩ := inA_some hj302
    try simp only [List.length_set] at j302c
    obtain rfl : j298 = j302 := j298b.symm.trans j302b
    refine ee_seq_draw rfl (by simp [-intsR_st, intsR_set, j298a, j298b, j298c, hx299, ghx299, j300a, j300b, j300c, hx301, ghx301, j302a, j302b, j302c, c295]; first | exact ⟨rfl, rfl⟩ | rfl) (by kernel_rfl) ?_
    refine ee_seq_reg rfl (by simp [-intsR_st, intsR_set, c295]; rfl) ?_
    refine ee_reg rfl (by simp [-intsR_st, intsR_set, c295]; rfl) ?_
    obtain rfl := Option.some.inj hk294
    simp only [pq, reduceCtorEq]
    simp [-intsR_st, intsR_set, und, List.replicate, Nat.add_assoc, c295]
  ·skip
   intro J294
   simp only [pq, reduceCtorEq] at J294
   refine ee_loop (kq := ⟨[0, 1, 9, 10], [1000000], []⟩) (H := fun (s : Int) => match s with | p181 => (⟨([.one (.ms 1000000 0 0 (p101.length) 1), .one (.v (.int .i64 a1))] ++ (und 7 ++ ([.one (.v (.int .i64 p161)), .one (.v (.int .i64 p181))] ++ (und 73))) : List PV), ([(1000000, ⟨0, 1, intsR .u64 p101, false, true⟩)] : Boxes)⟩ : ASt)) (by kernel_rfl) hk281 (by simp [-intsR_st, intsR_set, und, List.replicate, ]) ?_
   rintro p181 x303r hr303
   simp only [Lslices_partitionEqualOrdered_of_uint64_s3] at hr303
   unfold b74_3
   simp only [und, List.replicate, List.cons_append, List.nil_append]
   refine ee_assoc ?_
   by_cases c304 : p161 ≤ p181
   ·skip
    rw [if_pos] at hr303
    rotate_left
    ·simp [-intsR_st, intsR_set, c304]
    obtain ⟨z305, hz305, hr303⟩ := bs hr303
    obtain ⟨j306, hj306, hz305⟩ := bs hz305
    obtain ⟨j306a, j306b, j306c⟩ := inA_some hj306
    obtain rfl : j207 = j306 := j207b.symm.trans j306b
    obtain ⟨x307, hx307, hz305⟩ := bs hz305
    have ghx307 := getE_of hx307
    obtain ⟨j308, hj308, hz305⟩ := bs hz305
    obtain ⟨j308a, j308b, j308c⟩ := inA_some hj308
    obtain ⟨x309, hx309, hz305⟩ := bs hz305
    have ghx309 := getE_of hx309
    obtain ⟨y310, hy310, hz305⟩ := bs hz305
    have ehy310 := G39_eq hy310
    simp only [E39, R39, nf, nfs] at ehy310
    try simp only [intsR_set] at ehy310
    obtain rfl := Option.some.inj hz305
    refine ee_seq_draw rfl (by simp [-intsR_st, intsR_set, j306a, j306b, j306c, j207a, j207b, j207c, hx307, ghx307, j308a, j308b, j308c, hx309, ghx309, hO, hT39, ehy310, c304]; first | exact ⟨rfl, rfl⟩ | rfl) (by kernel_rfl) ?_
    by_cases c311 : y310 = true
    ·skip
     rw [if_pos] at hr303
     rotate_left
     ·simp [-intsR_st, intsR_set, c304, c311]
     refine ee_seq_condT (by simp [-intsR_st, intsR_set, bV, c304, c311]) ?_
     refine ee_seq_skip ?_
     refine ee_block ?_
     refine ee_reg rfl (by simp [-intsR_st, intsR_set, c304, c311]; rfl) ?_
     obtain rfl := Option.some.inj hr303
     simp only [pq, reduceCtorEq]
     simp [-intsR_st, intsR_set, und, List.replicate, Nat.add_assoc, c304, c311]
    ·skip
     rw [if_neg] at hr303
     rotate_left
     ·simp [-intsR_st, intsR_set, c304, c311]
     refine ee_seq_condF (by simp [-intsR_st, intsR_set, bV, c304, c311]) ?_
     refine ee_seq_exit ?_
     obtain ⟨r312, q312, rfl⟩ := ms hr303
     simp only [pq, reduceCtorEq]
     rintro rfl
     try simp only [pq, reduceCtorEq]
     exact ee_join (key := 1000007) (kq := ⟨[0, 1, 9, 10], [1000000], []⟩) rfl rfl rfl (by simp [-intsR_st, intsR_set, und, List.replicate, c304, c311]) (J294 p181 q312)
   ·skip
    rw [if_neg] at hr303
    rotate_left
    ·simp [-intsR_st, intsR_set, c304]
    obtain ⟨z313, hz313, hr303⟩ := bs hr303
    obtain rfl := Option.some.inj hz313
    refine ee_seq_draw rfl (by simp [-intsR_st, intsR_set, c304]; first | exact ⟨rfl, rfl⟩ | rfl) (by kernel_rfl) ?_
    rw [if_neg] at hr303
    rotate_left
    ·simp [-intsR_st, intsR_set, c304]
    refine ee_seq_condF (by simp [-intsR_st, intsR_set, bV, c304]) ?_
    refine ee_seq_exit ?_
    obtain ⟨r314, q314, rfl⟩ := ms hr303
    simp only [pq, reduceCtorEq]
    rintro rfl
    try simp only [pq, reduceCtorEq]
    exact ee_join (key := 1000007) (kq := ⟨[0, 1, 9, 10], [1000000], []⟩) rfl rfl rfl (by simp [-intsR_st, intsR_set, und, List.replicate, c304]) (J294 p181 q314)
 ·skip
  intro J281
  simp only [pq, reduceCtorEq] at J281
  refine ee_loop (kq := ⟨[0, 1, 9, 10], [1000000], []⟩) (H := fun (s : Int) => match s with | p161 => (⟨([.one (.ms 1000000 0 0 (p101.length) 1), .one (.v (.int .i64 a1))] ++ (und 7 ++ ([.one (.v (.int .i64 p161)), .one (.v (.int .i64 p100))] ++ (und 73))) : List PV), ([(1000000, ⟨0, 1, intsR .u64 p101, false, true⟩)] : Boxes)⟩ : ASt)) (by kernel_rfl) hr268 (by simp [-intsR_st, intsR_set, und, List.replicate, ]) ?_
  rintro p161 x315r hr315
  simp only [Lslices_partitionEqualOrdered_of_uint64_s2] at hr315
  unfold b74_2
  simp only [und, List.replicate, List.cons_append, List.nil_append]
  refine ee_assoc ?_
  by_cases c316 : p161 ≤ p100
  ·skip
   rw [if_pos] at hr315
   rotate_left
   ·simp [-intsR_st, intsR_set, c316]
   obtain ⟨z317, hz317, hr315⟩ := bs hr315
   obtain ⟨j318, hj318, hz317⟩ := bs hz317
   obtain ⟨j318a, j318b, j318c⟩ := inA_some hj318
   obtain rfl : j207 = j318 := j207b.symm.trans j318b
   obtain ⟨x319, hx319, hz317⟩ := bs hz317
   have ghx319 := getE_of hx319
   obtain ⟨j320, hj320, hz317⟩ := bs hz317
   obtain ⟨j320a, j320b, j320c⟩ := inA_some hj320
   obtain ⟨x321, hx321, hz317⟩ := bs hz317
   have ghx321 := getE_of hx321
   obtain ⟨y322, hy322, hz317⟩ := bs hz317
   have ehy322 := G39_eq hy322
   simp only [E39, R39, nf, nfs] at ehy322
   try simp only [intsR_set] at ehy322
   obtain rfl := Option.some.inj hz317
   refine ee_seq_draw rfl (by simp [-intsR_st, intsR_set, j318a, j318b, j318c, j207a, j207b, j207c, hx319, ghx319, j320a, j320b, j320c, hx321, ghx321, hO, hT39, ehy322, c316]; first | exact ⟨rfl, rfl⟩ | rfl) (by kernel_rfl) ?_
   by_cases c323 : y322 = true
   ·skip
    rw [if_neg] at hr315
    rotate_left
    ·simp [-intsR_st, intsR_set, c316, c323]
    refine ee_seq_condF (by simp [-intsR_st, intsR_set, bV, c316, c323]) ?_
    refine ee_seq_exit ?_
    obtain ⟨r324, q324, rfl⟩ := ms hr315
    simp only [pq, reduceCtorEq]
    rintro rfl
    try simp only [pq, reduceCtorEq]
    exact ee_join (key := 5) (kq := ⟨[0, 1, 9, 10], [1000000], []⟩) rfl rfl rfl (by simp [-intsR_st, intsR_set, und, List.replicate, c316, c323]) (J281 p161 q324)
   ·skip
    rw [if_pos] at hr315
    rotate_left
    ·simp [-intsR_st, intsR_set, c316, c323]
    refine ee_seq_condT (by simp [-intsR_st, intsR_set, bV, c316, c323]) ?_
    refine ee_seq_skip ?_
    refine ee_block ?_
    refine ee_reg rfl (by simp [-intsR_st, intsR_set, c316, c323]; rfl) ?_
    obtain rfl := Option.some.inj hr315
    simp only [pq, reduceCtorEq]
    simp [-intsR_st, intsR_set, und, List.replicate, Nat.add_assoc, c316, c323]
  ·skip
   rw [if_neg] at hr315
   rotate_left
   ·simp [-intsR_st, intsR_set, c316]
   obtain ⟨z325, hz325, hr315⟩ := bs hr315
   obtain rfl := Option.some.inj hz325
   refine ee_seq_draw rfl (by simp [-intsR_st, intsR_set, c316]; first | exact ⟨rfl, rfl⟩ | rfl) (by kernel_rfl) ?_
   rw [if_neg] at hr315
   rotate_left
   ·simp [-intsR_st, intsR_set, c316]
   refine ee_seq_condF (by simp [-intsR_st, intsR_set, bV, c316]) ?_
   refine ee_seq_exit ?_
   obtain ⟨r326, q326, rfl⟩ := ms hr315
   simp only [pq, reduceCtorEq]
   rintro rfl
   try simp only [pq, reduceCtorEq]
   exact ee_join (key := 5) (kq := ⟨[0, 1, 9, 10], [1000000], []⟩) rfl rfl rfl (by simp [-intsR_st, intsR_set, und, List.replicate, c316]) (J281 p161 q326)
end Go.Proofs.Ytmjbklblgpnagaa
