import Derived.Test.YtmjbklblgpnagaaLfK
import Derived.Test.YtmjbklblgpnagaaCode
import Derived.Test.YtmjbklblgpnagaaBl
namespace Go.Proofs.Ytmjbklblgpnagaa
open Go.RowKit
open Go.Av
open Go.Lc
set_option maxRecDepth 100000
set_option linter.unusedSimpArgs false
set_option linter.unusedVariables false
set_option maxHeartbeats 4000000
variable {G : Glob}
def kp68_3 : Keep := fun i => if i = 1 then ⟨[0, 1, 2, 6], [1000000], []⟩ else if i = 1000002 then ⟨[0, 1, 2, 6], [1000000], []⟩ else if i = 4 then ⟨[0, 1, 2, 6, 7], [1000000], []⟩ else ⟨[], [], []⟩
theorem w68_3 {T : Tab} (hO : T.own = fun _ => []) (hT39 : T 39 = some G39) (a0 : (List Int)) (a1 : Int) (a2 : Int) (x : (List Int)) (hr : Lslices_insertionSortOrdered_of_uint64 a0 a1 a2 = some x) : ∃ kp fl n, execFn tt T G kp fl n Try.f68 (E68_3 (a0, a1, a2)) = some (R68_3 (a0, a1, a2) x) := by
 simp only [E68_3, R68_3]
 refine fnE (kp := kp68_3) (w := false) body68 (by simp) ?_
 unfold c68
 rw [Try.ntmps68]
 unfold Lslices_insertionSortOrdered_of_uint64 at hr
 refine ee_seq_reg rfl (by simp [-intsR_st, intsR_set]; rfl) ?_
 refine ee_block ?_
 refine ee_loop (kq := ⟨[0, 1, 2, 6], [1000000], []⟩) (H := fun (s : Int × (List Int)) => match s with | (p77, p78) => (⟨([.one (.ms 1000000 0 0 (p78.length) 1), .one (.v (.int .i64 a1)), .one (.v (.int .i64 a2))] ++ (und 3 ++ ([.one (.v (.int .i64 p77))] ++ (und 42))) : List PV), ([(1000000, ⟨0, 1, intsR .u64 p78, false, true⟩)] : Boxes)⟩ : ASt)) (by kernel_rfl) hr (by simp [-intsR_st, intsR_set, und, List.replicate, ]) ?_
 rintro ⟨p77, p78⟩ x127r hr127
 simp only [Lslices_insertionSortOrdered_of_uint64_s1] at hr127
 unfold b68_1
 simp only [und, List.replicate, List.cons_append, List.nil_append]
 refine ee_assoc ?_
 refine ee_seq_reg rfl (by simp [-intsR_st, intsR_set]; rfl) ?_
 by_cases c128 : p77 < a2
 ·skip
  rw [if_pos] at hr127
  rotate_left
  ·simp [-intsR_st, intsR_set, c128]
  refine ee_seq_condT (by simp [-intsR_st, intsR_set, bV, c128]) ?_
  refine ee_seq_skip ?_
  refine ee_seq_block ?_
  refine ee_seq_reg rfl (by simp [-intsR_st, intsR_set, c128]; rfl) ?_
  refine ee_block ?_
  refine ee_J hr127 (.exit 1) (fun (s : (List Int)) => match s with | p104 => (⟨([.one (.ms 1000000 0 0 (p104.length) 1), .one (.v (.int .i64 a1)), .one (.v (.int .i64 a2))] ++ (und 3 ++ ([.one (.v (.int .i64 p77))] ++ (und 42))) : List PV), ([(1000000, ⟨0, 1, intsR .u64 p104, false, true⟩)] : Boxes)⟩ : ASt)) (fun (s : (List Int)) => match s with | p104 => Lslices_insertionSortOrdered_of_uint64_k1 p77 p104) ?_ ?_
  ·skip
   rintro p104 hk146
   change Lslices_insertionSortOrdered_of_uint64_k1 p77 p104 = _ at hk146
   simp only [pq, reduceCtorEq]
   simp only [und, List.replicate, List.cons_append, List.nil_append]
   unfold Lslices_insertionSortOrdered_of_uint64_k1 at hk146
   refine ee_regJ rfl (kq := ⟨[0, 1, 2, 6], [1000000], []⟩) rfl (by simp [-intsR_st, intsR_set, joinSt, c128]; rfl) (by simp [-intsR_st, intsR_set, c128]; rfl) ?_
   obtain rfl := Option.some.inj hk146
   simp only [pq, reduceCtorEq]
   simp [-intsR_st, intsR_set, und, List.replicate, Nat.add_assoc, c128]
  ·skip
   intro J146
   simp only [pq, reduceCtorEq] at J146
   refine ee_loop (kq := ⟨[0, 1, 2, 6, 7], [1000000], []⟩) (H := fun (s : Int × (List Int)) => match s with | (p103, p104) => (⟨([.one (.ms 1000000 0 0 (p104.length) 1), .one (.v (.int .i64 a1)), .one (.v (.int .i64 a2))] ++ (und 3 ++ ([.one (.v (.int .i64 p77)), .one (.v (.int .i64 p103))] ++ (und 41))) : List PV), ([(1000000, ⟨0, 1, intsR .u64 p104, false, true⟩)] : Boxes)⟩ : ASt)) (by kernel_rfl) hr127 (by simp [-intsR_st, intsR_set, und, List.replicate, c128]) ?_
   rintro ⟨p103, p104⟩ x147r hr147
   simp only [Lslices_insertionSortOrdered_of_uint64_s2] at hr147
   unfold b68_2
   simp only [und, List.replicate, List.cons_append, List.nil_append]
   refine ee_assoc ?_
   by_cases c148 : a1 < p103
   ·skip
    rw [if_pos] at hr147
    rotate_left
    ·simp [-intsR_st, intsR_set, c128, c148]
    obtain ⟨z149, hz149, hr147⟩ := bs hr147
    obtain ⟨j150, hj150, hz149⟩ := bs hz149
    obtain ⟨j150a, j150b, j150c⟩ := inA_some hj150
    obtain ⟨x151, hx151, hz149⟩ := bs hz149
    have ghx151 := getE_of hx151
    obtain ⟨j152, hj152, hz149⟩ := bs hz149
    obtain ⟨j152a, j152b, j152c⟩ := inA_some hj152
    obtain ⟨x153, hx153, hz149⟩ := bs hz149
    have ghx153 := getE_of hx153
    obtain ⟨y154, hy154, hz149⟩ := bs hz149
    have ehy154 := G39_eq hy154
    simp only [E39, R39, nf, nfs] at ehy154
    try simp only [intsR_set] at ehy154
    obtain rfl := Option.some.inj hz149
    refine ee_seq_draw rfl (by simp [-intsR_st, intsR_set, j150a, j150b, j150c, hx151, ghx151, j152a, j152b, j152c, hx153, ghx153, hO, hT39, ehy154, c128, c148]; first | exact ⟨rfl, rfl⟩ | rfl) (by kernel_rfl) ?_
    by_cases c155 : y154 = true
    ·skip
     rw [if_pos] at hr147
     rotate_left
     ·simp [-intsR_st, intsR_set, c128, c148, c155]
     refine ee_seq_condT (by simp [-intsR_st, intsR_set, bV, c128, c148, c155]) ?_
     refine ee_seq_skip ?_
     refine ee_seq_block ?_
     obtain ⟨j156, hj156, hr147⟩ := bs hr147
     obtain ⟨j156a, j156b, j156c⟩ := inA_some hj156
     obtain rfl : j152 = j156 := j152b.symm.trans j156b
     obtain ⟨x157, hx157, hr147⟩ := bs hr147
     have ghx157 := getE_of hx157
     obtain ⟨j158, hj158, hr147⟩ := bs hr147
     obtain ⟨j158a, j158b, j158c⟩ := inA_some hj158
     obtain rfl : j150 = j158 := j150b.symm.trans j158b
     obtain ⟨x159, hx159, hr147⟩ := bs hr147
     have ghx159 := getE_of hx159
     obtain ⟨j150a, j150b, j150c⟩ := inA_some hj158
     obtain ⟨j160, hj160, hr147⟩ := bs hr147
     obtain ⟨j160a, j160b, j160c⟩ := inA_some hj160
     try simp only [List.length_set] at j160c
     obtain rfl : j152 = j160 := j152b.symm.trans j160b
     refine ee_draw rfl (by simp [-intsR_st, intsR_set, j156a, j156b, j156c, j152a, j152b, j152c, hx157, ghx157, j158a, j158b, j158c, j150a, j150b, j150c, hx159, ghx159, j160a, j160b, j160c, c128, c148, c155]; first | exact ⟨rfl, rfl⟩ | rfl) (by kernel_rfl) ?_
     simp only [pq, reduceCtorEq]
     refine ee_reg rfl (by simp [-intsR_st, intsR_set, c128, c148, c155]; rfl) ?_
     obtain rfl := Option.some.inj hr147
     simp only [pq, reduceCtorEq]
     simp [-intsR_st, intsR_set, und, List.replicate, Nat.add_assoc, c128, c148, c155]
    ·skip
     rw [if_neg] at hr147
     rotate_left
     ·simp [-intsR_st, intsR_set, c128, c148, c155]
     refine ee_seq_condF (by simp [-intsR_st, intsR_set, bV, c128, c148, c155]) ?_
     refine ee_seq_exit ?_
     obtain ⟨r161, q161, rfl⟩ := ms hr147
     simp only [pq, reduceCtorEq]
     rintro rfl
     try simp only [pq, reduceCtorEq]
     exact ee_join (key := 1000002) (kq := ⟨[0, 1, 2, 6], [1000000], []⟩) rfl rfl rfl (by simp [-intsR_st, intsR_set, und, List.replicate, c128, c148, c155]) (J146 p104 q161)
   ·skip
    rw [if_neg] at hr147
    rotate_left
    ·simp [-intsR_st, intsR_set, c128, c148]
    obtain ⟨z162, hz162, hr147⟩ := bs hr147
    obtain rfl := Option.some.inj hz162
    refine ee_seq_draw rfl (by simp [-intsR_st, intsR_set, c128, c148]; first | exact ⟨rfl, rfl⟩ | rfl) (by kernel_rfl) ?_
    rw [if_neg] at hr147
    rotate_left
    ·simp [-intsR_st, intsR_set, c128, c148]
    refine ee_seq_condF (by simp [-intsR_st, intsR_set, bV, c128, c148]) ?_
    refine ee_seq_exit ?_
    obtain ⟨r163, q163, rfl⟩ := ms hr147
    simp only [pq, reduceCtorEq]
    rintro rfl
    try simp only [pq, reduceCtorEq]
    exact ee_join (key := 1000002) (kq := ⟨[0, 1, 2, 6], [1000000], []⟩) rfl rfl rfl (by simp [-intsR_st, intsR_set, und, List.replicate, c128, c148]) (J146 p104 q163)
 ·skip
  rw [if_neg] at hr127
  rotate_left
  ·simp [-intsR_st, intsR_set, c128]
  refine ee_seq_condF (by simp [-intsR_st, intsR_set, bV, c128]) ?_
  refine ee_seq_exit ?_
  obtain ⟨_, u164, hr127⟩ := bs hr127
  have u164_0 := chk_some u164
  obtain rfl := Option.some.inj hr127
  simp only [pq, reduceCtorEq]
  rintro rfl
  simp [-intsR_st, intsR_set, FinQ, u164_0, c128]
def kp78_4 : Keep := fun i => if i = 1 then ⟨[0, 2, 3, 8], [1000000], []⟩ else if i = 1000005 then ⟨[0, 2, 3, 8, 9], [1000000], []⟩ else ⟨[], [], []⟩
theorem w78_4 {T : Tab} (hO : T.own = fun _ => []) (hT39 : T 39 = some G39) (a0 : (List Int)) (a1 : Int) (a2 : Int) (a3 : Int) (x : (List Int)) (hr : Lslices_siftDownOrdered_of_uint64 a0 a1 a2 a3 = some x) : ∃ kp fl n, execFn tt T G kp fl n Try.f78 (E78_4 (a0, a1, a2, a3)) = some (R78_4 (a0, a1, a2, a3) x) := by
 simp only [E78_4, R78_4]
 refine fnE (kp := kp78_4) (w := false) body78 (by simp) ?_
 unfold c78
 rw [Try.ntmps78]
 unfold Lslices_siftDownOrdered_of_uint64 at hr
 refine ee_seq_reg rfl (by simp [-intsR_st, intsR_set]; rfl) ?_
 refine ee_block ?_
 refine ee_loop (kq := ⟨[0, 2, 3, 8], [1000000], []⟩) (H := fun (s : Int × (List Int)) => match s with | (p29, p30) => (⟨([.one (.ms 1000000 0 0 (p30.length) 1)] ++ (und 1 ++ ([.one (.v (.int .i64 a2)), .one (.v (.int .i64 a3))] ++ (und 4 ++ ([.one (.v (.int .i64 p29))] ++ (und 67))))) : List PV), ([(1000000, ⟨0, 1, intsR .u64 p30, false, true⟩)] : Boxes)⟩ : ASt)) (by kernel_rfl) hr (by simp [-intsR_st, intsR_set, und, List.replicate, ]) ?_
 rintro ⟨p29, p30⟩ x44r hr44
 simp only [Lslices_siftDownOrdered_of_uint64_s1] at hr44
 unfold b78_1
 simp only [und, List.replicate, List.cons_append, List.nil_append]
 refine ee_block ?_
 refine ee_seq_reg rfl (by simp [-intsR_st, intsR_set]; rfl) ?_
 refine ee_assoc ?_
 refine ee_seq_reg rfl (by simp [-intsR_st, intsR_set]; rfl) ?_
 by_cases c45 : a2 ≤ IntKind.i64.wrap ((IntKind.i64.wrap (2 * p29)) + 1)
 ·skip
  rw [if_pos] at hr44
  rotate_left
  ·simp [-intsR_st, intsR_set, c45]
  refine ee_seq_condT (by simp [-intsR_st, intsR_set, bV, c45]) ?_
  refine ee_seq_exit ?_
  obtain ⟨_, u46, hr44⟩ := bs hr44
  have u46_0 := chk_some u46
  obtain rfl := Option.some.inj hr44
  simp only [pq, reduceCtorEq]
  rintro rfl
  simp [-intsR_st, intsR_set, FinQ, u46_0, c45]
 ·skip
  rw [if_neg] at hr44
  rotate_left
  ·simp [-intsR_st, intsR_set, c45]
  refine ee_seq_condF (by simp [-intsR_st, intsR_set, bV, c45]) ?_
  refine ee_seq_skip ?_
  refine ee_assoc ?_
  by_cases c47 : IntKind.i64.wrap ((IntKind.i64.wrap ((IntKind.i64.wrap (2 * p29)) + 1)) + 1) < a2
  ·skip
   rw [if_pos] at hr44
   rotate_left
   ·simp [-intsR_st, intsR_set, c45, c47]
   obtain ⟨z48, hz48, hr44⟩ := bs hr44
   obtain ⟨j49, hj49, hz48⟩ := bs hz48
   obtain ⟨j49a, j49b, j49c⟩ := inA_some hj49
   obtain ⟨x50, hx50, hz48⟩ := bs hz48
   have ghx50 := getE_of hx50
   obtain ⟨j51, hj51, hz48⟩ := bs hz48
   obtain ⟨j51a, j51b, j51c⟩ := inA_some hj51
   obtain ⟨x52, hx52, hz48⟩ := bs hz48
   have ghx52 := getE_of hx52
   obtain ⟨y53, hy53, hz48⟩ := bs hz48
   have ehy53 := G39_eq hy53
   simp only [E39, R39, nf, nfs] at ehy53
   try simp only [intsR_set] at ehy53
   obtain rfl := Option.some.inj hz48
   refine ee_seq_draw rfl (by simp [-intsR_st, intsR_set, j49a, j49b, j49c, hx50, ghx50, j51a, j51b, j51c, hx52, ghx52, hO, hT39, ehy53, c45, c47]; first | exact ⟨rfl, rfl⟩ | rfl) (by kernel_rfl) ?_
   refine ee_seq_J hr44 (fun (s : Int) => match s with | p37 => (⟨([.one (.ms 1000000 0 0 (p30.length) 1)] ++ (und 1 ++ ([.one (.v (.int .i64 a2)), .one (.v (.int .i64 a3))] ++ (und 4 ++ ([.one (.v (.int .i64 p29)), .one (.v (.int .i64 p37))] ++ (und 66))))) : List PV), ([(1000000, ⟨0, 1, intsR .u64 p30, false, true⟩)] : Boxes)⟩ : ASt)) (fun (s : Int) => match s with | p37 => Lslices_siftDownOrdered_of_uint64_k1 p30 a3 p29 a0 p37) ?_ ?_
   ·skip
    rintro p37 hk55
    change Lslices_siftDownOrdered_of_uint64_k1 p30 a3 p29 a0 p37 = _ at hk55
    simp only [und, List.replicate, List.cons_append, List.nil_append]
    unfold Lslices_siftDownOrdered_of_uint64_k1 at hk55
    refine ee_assoc ?_
    obtain ⟨j56, hj56, hk55⟩ := bs hk55
    obtain ⟨j56a, j56b, j56c⟩ := inA_some hj56
    obtain ⟨x57, hx57, hk55⟩ := bs hk55
    have ghx57 := getE_of hx57
    obtain ⟨j58, hj58, hk55⟩ := bs hk55
    obtain ⟨j58a, j58b, j58c⟩ := inA_some hj58
    obtain ⟨x59, hx59, hk55⟩ := bs hk55
    have ghx59 := getE_of hx59
    obtain ⟨y60, hy60, hk55⟩ := bs hk55
    have ehy60 := G39_eq hy60
    simp only [E39, R39, nf, nfs] at ehy60
    try simp only [intsR_set] at ehy60
    refine ee_seq_drawJ rfl (kq := ⟨[0, 2, 3, 8, 9], [1000000], []⟩) rfl (by simp [-intsR_st, intsR_set, joinSt, j56a, j56b, j56c, hx57, ghx57, j58a, j58b, j58c, hx59, ghx59, hO, hT39, ehy60, c45, c47]; rfl) (by simp [-intsR_st, intsR_set, j56a, j56b, j56c, hx57, ghx57, j58a, j58b, j58c, hx59, ghx59, hO, hT39, ehy60, c45, c47]; first | exact ⟨rfl, rfl⟩ | rfl) (by kernel_rfl) ?_
    by_cases c61 : y60 = true
    ·skip
     rw [if_neg (not_not_intro c61)] at hk55
     refine ee_seq_condF (by simp [-intsR_st, intsR_set, bV, c45, c47, c61]) ?_
     refine ee_seq_skip ?_
     obtain ⟨j58a, j58b, j58c⟩ := inA_some hj58
     have ghx59 := getE_of hx59
     obtain ⟨j56a, j56b, j56c⟩ := inA_some hj56
     have ghx57 := getE_of hx57
     obtain ⟨j56a, j56b, j56c⟩ := inA_some hj56
     obtain ⟨j62, hj62, hk55⟩ := bs hk55
     obtain ⟨j62a, j62b, j62c⟩ := inA_some hj62
     try simp only [List.length_set] at j62c
     obtain rfl : j58 = j62 := j58b.symm.trans j62b
     refine ee_seq_draw rfl (by simp [-intsR_st, intsR_set, j58a, j58b, j58c, hx59, ghx59, j56a, j56b, j56c, hx57, ghx57, j62a, j62b, j62c, c45, c47, c61]; first | exact ⟨rfl, rfl⟩ | rfl) (by kernel_rfl) ?_
     refine ee_reg rfl (by simp [-intsR_st, intsR_set, c45, c47, c61]; rfl) ?_
     obtain rfl := Option.some.inj hk55
     simp only [pq, reduceCtorEq]
     simp [-intsR_st, intsR_set, und, List.replicate, Nat.add_assoc, c45, c47, c61]
    ·skip
     rw [if_pos c61] at hk55
     refine ee_seq_condT (by simp [-intsR_st, intsR_set, bV, c45, c47, c61]) ?_
     refine ee_seq_ret ?_
     obtain ⟨_, u63, hk55⟩ := bs hk55
     have u63_0 := chk_some u63
     obtain rfl := Option.some.inj hk55
     simp only [pq, reduceCtorEq]
     rintro rfl
     simp [-intsR_st, intsR_set, FinQ, j56a, j56b, j56c, hx57, ghx57, j58a, j58b, j58c, hx59, ghx59, hO, hT39, ehy60, u63_0, c45, c47, c61]
   ·skip
    intro J55
    by_cases c64 : y53 = true
    ·skip
     rw [if_pos] at hr44
     rotate_left
     ·simp [-intsR_st, intsR_set, c45, c47, c64]
     refine ee_seq_condT (by simp [-intsR_st, intsR_set, bV, c45, c47, c64]) ?_
     refine ee_seq_reg rfl (by simp [-intsR_st, intsR_set, c45, c47, c64]; rfl) ?_
     exact ee_join (key := 1000005) (kq := ⟨[0, 2, 3, 8, 9], [1000000], []⟩) rfl rfl rfl (by simp [-intsR_st, intsR_set, und, List.replicate, c45, c47, c64]) (J55 (IntKind.i64.wrap ((IntKind.i64.wrap ((IntKind.i64.wrap (2 * p29)) + 1)) + 1)) hr44)
    ·skip
     rw [if_neg] at hr44
     rotate_left
     ·simp [-intsR_st, intsR_set, c45, c47, c64]
     refine ee_seq_condF (by simp [-intsR_st, intsR_set, bV, c45, c47, c64]) ?_
     refine ee_seq_skip ?_
     exact ee_join (key := 1000005) (kq := ⟨[0, 2, 3, 8, 9], [1000000], []⟩) rfl rfl rfl (by simp [-intsR_st, intsR_set, und, List.replicate, c45, c47, c64]) (J55 (IntKind.i64.wrap ((IntKind.i64.wrap (2 * p29)) + 1)) hr44)
  ·skip
   rw [if_neg] at hr44
   rotate_left
   ·simp [-intsR_st, intsR_set, c45, c47]
   obtain ⟨z65, hz65, hr44⟩ := bs hr44
   obtain rfl := Option.some.inj hz65
   refine ee_seq_draw rfl (by simp [-intsR_st, intsR_set, c45, c47]; first | exact ⟨rfl, rfl⟩ | rfl) (by kernel_rfl) ?_
   rw [if_neg] at hr44
   rotate_left
   ·simp [-intsR_st, intsR_set, c45, c47]
   refine ee_seq_condF (by simp [-intsR_st, intsR_set, bV, c45, c47]) ?_
   refine ee_seq_skip ?_
   unfold Lslices_siftDownOrdered_of_uint64_k1 at hr44
   refine ee_assoc ?_
   obtain ⟨j66, hj66, hr44⟩ := bs hr44
   obtain ⟨j66a, j66b, j66c⟩ := inA_some hj66
   obtain ⟨x67, hx67, hr44⟩ := bs hr44
   have ghx67 := getE_of hx67
   obtain ⟨j68, hj68, hr44⟩ := bs hr44
   obtain ⟨j68a, j68b, j68c⟩ := inA_some hj68
   obtain ⟨x69, hx69, hr44⟩ := bs hr44
   have ghx69 := getE_of hx69
   obtain ⟨y70, hy70, hr44⟩ := bs hr44
   have ehy70 := G39_eq hy70
   simp only [E39, R39, nf, nfs] at ehy70
   try simp only [intsR_set] at ehy70
   refine ee_seq_drawJ rfl (kq := ⟨[0, 2, 3, 8, 9], [1000000], []⟩) rfl (by simp [-intsR_st, intsR_set, joinSt, j66a, j66b, j66c, hx67, ghx67, j68a, j68b, j68c, hx69, ghx69, hO, hT39, ehy70, c45, c47]; rfl) (by simp [-intsR_st, intsR_set, j66a, j66b, j66c, hx67, ghx67, j68a, j68b, j68c, hx69, ghx69, hO, hT39, ehy70, c45, c47]; first | exact ⟨rfl, rfl⟩ | rfl) (by kernel_rfl) ?_
   by_cases c71 : y70 = true
   ·skip
    rw [if_neg (not_not_intro c71)] at hr44
    refine ee_seq_condF (by simp [-intsR_st, intsR_set, bV, c45, c47, c71]) ?_
    refine ee_seq_skip ?_
    obtain ⟨j68a, j68b, j68c⟩ := inA_some hj68
    have ghx69 := getE_of hx69
    obtain ⟨j66a, j66b, j66c⟩ := inA_some hj66
    have ghx67 := getE_of hx67
    obtain ⟨j66a, j66b, j66c⟩ := inA_some hj66
    obtain ⟨j72, hj72, hr44⟩ := bs hr44
    obtain ⟨j72a, j72b, j72c⟩ := inA_some hj72
    try simp only [List.length_set] at j72c
    obtain rfl : j68 = j72 := j68b.symm.trans j72b
    refine ee_seq_draw rfl (by simp [-intsR_st, intsR_set, j68a, j68b, j68c, hx69, ghx69, j66a, j66b, j66c, hx67, ghx67, j72a, j72b, j72c, c45, c47, c71]; first | exact ⟨rfl, rfl⟩ | rfl) (by kernel_rfl) ?_
    refine ee_reg rfl (by simp [-intsR_st, intsR_set, c45, c47, c71]; rfl) ?_
    obtain rfl := Option.some.inj hr44
    simp only [pq, reduceCtorEq]
    simp [-intsR_st, intsR_set, und, List.replicate, Nat.add_assoc, c45, c47, c71]
   ·skip
    rw [if_pos c71] at hr44
    refine ee_seq_condT (by simp [-intsR_st, intsR_set, bV, c45, c47, c71]) ?_
    refine ee_seq_ret ?_
    obtain ⟨_, u73, hr44⟩ := bs hr44
    have u73_0 := chk_some u73
    obtain rfl := Option.some.inj hr44
    simp only [pq, reduceCtorEq]
    rintro rfl
    simp [-intsR_st, intsR_set, FinQ, j66a, j66b, j66c, hx67, ghx67, j68a, j68b, j68c, hx69, ghx69, hO, hT39, ehy70, u73_0, c45, c47, c71]
def kp69_5 : Keep := fun i => if i = 4 then ⟨[0, 6, 7, 8, 9], [1000000], []⟩ else if i = 8 then ⟨[0, 6, 7, 10], [1000000], []⟩ else ⟨[], [], []⟩
theorem w69_5 {T : Tab} (hO : T.own = fun d => if d = 26 then [[1000001]] else if d = 55 then [[1000001]] else []) (hT78 : T 78 = some G78_4) (a0 : (List Int)) (a1 : Int) (a2 : Int) (x : (List Int)) (hr : Lslices_heapSortOrdered_of_uint64 a0 a1 a2 = some x) : ∃ kp fl n, execFn tt T G kp fl n Try.f69 (E69_5 (a0, a1, a2)) = some (R69_5 (a0, a1, a2) x) := by
 simp only [E69_5, R69_5]
 refine fnE (kp := kp69_5) (w := false) body69 (by simp) ?_
 unfold c69
 rw [Try.ntmps69]
 unfold Lslices_heapSortOrdered_of_uint64 at hr
 refine ee_seq_reg rfl (by simp [-intsR_st, intsR_set]; rfl) ?_
 refine ee_seq_reg rfl (by simp [-intsR_st, intsR_set]; rfl) ?_
 refine ee_seq_reg rfl (by simp [-intsR_st, intsR_set]; rfl) ?_
 refine ee_assoc ?_
 refine ee_seq_reg rfl (by simp [-intsR_st, intsR_set]; rfl) ?_
 refine ee_seq_block ?_
 refine ee_loop (kq := ⟨[0, 6, 7, 8, 9], [1000000], []⟩) (H := fun (s : Int × (List Int)) => match s with | (p7, p8) => (⟨([.one (.ms 1000000 0 0 (p8.length) 1)] ++ (und 5 ++ ([.one (.v (.int .i64 a1)), .one (.v (.int .i64 0)), .one (.v (.int .i64 (IntKind.i64.wrap (a2 - a1)))), .one (.v (.int .i64 p7))] ++ (und 46))) : List PV), ([(1000000, ⟨0, 1, intsR .u64 p8, false, true⟩)] : Boxes)⟩ : ASt)) (by kernel_rfl) hr (by simp [-intsR_st, intsR_set, und, List.replicate, ]) ?_
 rintro ⟨p7, p8⟩ x44r hr44
 simp only [Lslices_heapSortOrdered_of_uint64_s1] at hr44
 unfold b69_1
 simp only [und, List.replicate, List.cons_append, List.nil_append]
 refine ee_assoc ?_
 refine ee_seq_reg rfl (by simp [-intsR_st, intsR_set]; rfl) ?_
 by_cases c45 : 0 ≤ p7
 ·skip
  rw [if_pos] at hr44
  rotate_left
  ·simp [-intsR_st, intsR_set, c45]
  refine ee_seq_condT (by simp [-intsR_st, intsR_set, bV, c45]) ?_
  refine ee_seq_skip ?_
  refine ee_seq_block ?_
  obtain ⟨y46, hy46, hr44⟩ := bs hr44
  have ehy46 := G78_4_eq hy46
  simp only [E78_4, R78_4, nf, nfs] at ehy46
  try simp only [intsR_set] at ehy46
  obtain ⟨_, u47, hr44⟩ := bs hr44
  have u47_0 := chk_some u47
  have ck48 := chunk_ints1 (k := .u64) u47_0
  refine ee_reg rfl (by simp [-intsR_st, intsR_set, hO, hT78, ehy46, ck48, u47_0, c45]; rfl) ?_
  simp only [pq, reduceCtorEq]
  refine ee_reg rfl (by simp [-intsR_st, intsR_set, c45, u47_0]; rfl) ?_
  obtain rfl := Option.some.inj hr44
  simp only [pq, reduceCtorEq]
  simp [-intsR_st, intsR_set, und, List.replicate, Nat.add_assoc, c45, u47_0]
 ·skip
  rw [if_neg] at hr44
  rotate_left
  ·simp [-intsR_st, intsR_set, c45]
  refine ee_seq_condF (by simp [-intsR_st, intsR_set, bV, c45]) ?_
  refine ee_seq_exit ?_
  obtain ⟨r49, q49, rfl⟩ := ms hr44
  simp only [pq, reduceCtorEq]
  rintro rfl
  try simp only [pq, reduceCtorEq]
  unfold Lslices_heapSortOrdered_of_uint64_k1 at q49
  refine ee_seq_reg rfl (by simp [-intsR_st, intsR_set, c45]; rfl) ?_
  refine ee_block ?_
  refine ee_loop (kq := ⟨[0, 6, 7, 10], [1000000], []⟩) (H := fun (s : Int × (List Int)) => match s with | (p27, p28) => (⟨([.one (.ms 1000000 0 0 (p28.length) 1)] ++ (und 5 ++ ([.one (.v (.int .i64 a1)), .one (.v (.int .i64 0))] ++ (und 2 ++ ([.one (.v (.int .i64 p27))] ++ (und 45))))) : List PV), ([(1000000, ⟨0, 1, intsR .u64 p28, false, true⟩)] : Boxes)⟩ : ASt)) (by kernel_rfl) q49 (by simp [-intsR_st, intsR_set, und, List.replicate, c45]) ?_
  rintro ⟨p27, p28⟩ x50r hr50
  simp only [Lslices_heapSortOrdered_of_uint64_s2] at hr50
  unfold b69_2
  simp only [und, List.replicate, List.cons_append, List.nil_append]
  refine ee_assoc ?_
  refine ee_seq_reg rfl (by simp [-intsR_st, intsR_set, c45]; rfl) ?_
  by_cases c51 : 0 ≤ p27
  ·skip
   rw [if_pos] at hr50
   rotate_left
   ·simp [-intsR_st, intsR_set, c45, c51]
   refine ee_seq_condT (by simp [-intsR_st, intsR_set, bV, c45, c51]) ?_
   refine ee_seq_skip ?_
   refine ee_seq_block ?_
   obtain ⟨j52, hj52, hr50⟩ := bs hr50
   obtain ⟨j52a, j52b, j52c⟩ := inA_some hj52
   obtain ⟨x53, hx53, hr50⟩ := bs hr50
   have ghx53 := getE_of hx53
   obtain ⟨j54, hj54, hr50⟩ := bs hr50
   obtain ⟨j54a, j54b, j54c⟩ := inA_some hj54
   obtain ⟨x55, hx55, hr50⟩ := bs hr50
   have ghx55 := getE_of hx55
   obtain ⟨j54a, j54b, j54c⟩ := inA_some hj54
   obtain ⟨j56, hj56, hr50⟩ := bs hr50
   obtain ⟨j56a, j56b, j56c⟩ := inA_some hj56
   try simp only [List.length_set] at j56c
   obtain rfl : j52 = j56 := j52b.symm.trans j56b
   refine ee_seq_draw rfl (by simp [-intsR_st, intsR_set, j52a, j52b, j52c, hx53, ghx53, j54a, j54b, j54c, hx55, ghx55, j56a, j56b, j56c, c45, c51]; first | exact ⟨rfl, rfl⟩ | rfl) (by kernel_rfl) ?_
   obtain ⟨y57, hy57, hr50⟩ := bs hr50
   have ehy57 := G78_4_eq hy57
   simp only [E78_4, R78_4, nf, nfs] at ehy57
   try simp only [intsR_set] at ehy57
   obtain ⟨_, u58, hr50⟩ := bs hr50
   have u58_0 := chk_some u58
   have ck59 := chunk_ints1 (k := .u64) u58_0
   simp only [List.length_set] at ck59 u58_0
   refine ee_reg rfl (by simp [-intsR_st, intsR_set, hO, hT78, ehy57, ck59, u58_0, c45, c51]; rfl) ?_
   simp only [pq, reduceCtorEq]
   refine ee_reg rfl (by simp [-intsR_st, intsR_set, c45, c51, u58_0]; rfl) ?_
   obtain rfl := Option.some.inj hr50
   simp only [pq, reduceCtorEq]
   simp [-intsR_st, intsR_set, und, List.replicate, Nat.add_assoc, c45, c51, u58_0]
  ·skip
   rw [if_neg] at hr50
   rotate_left
   ·simp [-intsR_st, intsR_set, c45, c51]
   refine ee_seq_condF (by simp [-intsR_st, intsR_set, bV, c45, c51]) ?_
   refine ee_seq_exit ?_
   obtain ⟨_, u60, hr50⟩ := bs hr50
   have u60_0 := chk_some u60
   obtain rfl := Option.some.inj hr50
   simp only [pq, reduceCtorEq]
   rintro rfl
   simp [-intsR_st, intsR_set, FinQ, u60_0, c45, c51]
def kp72_6 : Keep := fun i => if i = 2 then ⟨[0, 6, 7], [1000000], []⟩ else ⟨[], [], []⟩
theorem w72_6 {T : Tab} (a0 : (List Int)) (a1 : Int) (a2 : Int) (x : (List Int)) (hr : Lslices_reverseRangeOrdered_of_uint64 a0 a1 a2 = some x) : ∃ kp fl n, execFn tt T G kp fl n Try.f72 (E72_6 (a0, a1, a2)) = some (R72_6 (a0, a1, a2) x) := by
 simp only [E72_6, R72_6]
 refine fnE (kp := kp72_6) (w := false) body72 (by simp) ?_
 unfold c72
 rw [Try.ntmps72]
 unfold Lslices_reverseRangeOrdered_of_uint64 at hr
 refine ee_seq_reg rfl (by simp [-intsR_st, intsR_set]; rfl) ?_
 refine ee_seq_reg rfl (by simp [-intsR_st, intsR_set]; rfl) ?_
 refine ee_block ?_
 refine ee_loop (kq := ⟨[0, 6, 7], [1000000], []⟩) (H := fun (s : Int × Int × (List Int)) => match s with | (p14, p15, p16) => (⟨([.one (.ms 1000000 0 0 (p16.length) 1)] ++ (und 5 ++ ([.one (.v (.int .i64 p14)), .one (.v (.int .i64 p15))] ++ (und 24))) : List PV), ([(1000000, ⟨0, 1, intsR .u64 p16, false, true⟩)] : Boxes)⟩ : ASt)) (by kernel_rfl) hr (by simp [-intsR_st, intsR_set, und, List.replicate, ]) ?_
 rintro ⟨p14, p15, p16⟩ x22r hr22
 simp only [Lslices_reverseRangeOrdered_of_uint64_s1] at hr22
 unfold b72_1
 simp only [und, List.replicate, List.cons_append, List.nil_append]
 refine ee_assoc ?_
 refine ee_seq_reg rfl (by simp [-intsR_st, intsR_set]; rfl) ?_
 by_cases c23 : p14 < p15
 ·skip
  rw [if_pos] at hr22
  rotate_left
  ·simp [-intsR_st, intsR_set, c23]
  refine ee_seq_condT (by simp [-intsR_st, intsR_set, bV, c23]) ?_
  refine ee_seq_skip ?_
  refine ee_block ?_
  obtain ⟨j24, hj24, hr22⟩ := bs hr22
  obtain ⟨j24a, j24b, j24c⟩ := inA_some hj24
  obtain ⟨x25, hx25, hr22⟩ := bs hr22
  have ghx25 := getE_of hx25
  obtain ⟨j26, hj26, hr22⟩ := bs hr22
  obtain ⟨j26a, j26b, j26c⟩ := inA_some hj26
  obtain ⟨x27, hx27, hr22⟩ := bs hr22
  have ghx27 := getE_of hx27
  obtain ⟨j26a, j26b, j26c⟩ := inA_some hj26
  obtain ⟨j28, hj28, hr22⟩ := bs hr22
  obtain ⟨j28a, j28b, j28c⟩ := inA_some hj28
  try simp only [List.length_set] at j28c
  obtain rfl : j24 = j28 := j24b.symm.trans j28b
  refine ee_seq_draw rfl (by simp [-intsR_st, intsR_set, j24a, j24b, j24c, hx25, ghx25, j26a, j26b, j26c, hx27, ghx27, j28a, j28b, j28c, c23]; first | exact ⟨rfl, rfl⟩ | rfl) (by kernel_rfl) ?_
  refine ee_seq_reg rfl (by simp [-intsR_st, intsR_set, c23]; rfl) ?_
  refine ee_reg rfl (by simp [-intsR_st, intsR_set, c23]; rfl) ?_
  obtain rfl := Option.some.inj hr22
  simp only [pq, reduceCtorEq]
  simp [-intsR_st, intsR_set, und, List.replicate, Nat.add_assoc, c23]
 ·skip
  rw [if_neg] at hr22
  rotate_left
  ·simp [-intsR_st, intsR_set, c23]
  refine ee_seq_condF (by simp [-intsR_st, intsR_set, bV, c23]) ?_
  refine ee_seq_exit ?_
  obtain ⟨_, u29, hr22⟩ := bs hr22
  have u29_0 := chk_some u29
  obtain rfl := Option.some.inj hr22
  simp only [pq, reduceCtorEq]
  rintro rfl
  simp [-intsR_st, intsR_set, FinQ, u29_0, c23]
end Go.Proofs.Ytmjbklblgpnagaa
