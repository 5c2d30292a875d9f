import Derived.Test.YtmjbklblgpnagaaLfK
import Derived.Test.YtmjbklblgpnagaaCode
import Derived.Test.YtmjbklblgpnagaaBl
namespace Go.Proofs.Ytmjbklblgpnagaa
open Go.RowKit
open Go.Av
open Go.Lc
set_option maxRecDepth 100000
set_option linter.unusedSimpArgs false
set_option linter.unusedVariables false
set_option maxHeartbeats 4000000
variable {G : Glob}
def kp68_3 : Keep := fun i => if i = 1 then ⟨[0, 1, 2, 6], [1000000], []⟩ else if i = 1000002 then ⟨[0, 1, 2, 6], [1000000], []⟩ else if i = 4 then ⟨[0, 1, 2, 6, 7], [1000000], []⟩ else ⟨[], [], []⟩
theorem Zpb {T : Tab} (hO : T.own = fun _ => []) (hT39 : T 39 = some G39) (a0 : (List Int)) (a1 : Int) (a2 : Int) (x : (List Int)) (hr : Z8 a0 a1 a2 = some x) : ∃ kp fl n, ZI tt T G kp fl n Try.f68 (Zd6 (a0, a1, a2)) = some (Zf2 (a0, a1, a2) x) := by
 simp only [Zd6, Zf2]
 refine fnE (kp := kp68_3) (w := false) body68 (by simp) ?_
 unfold c68
 rw [Try.ntmps68]
 unfold Z8 at hr
 refine Za rfl (by simp [-Zd, Zb]; rfl) ?_
 refine YT ?_
 refine ZU (kq := ⟨[0, 1, 2, 6], [1000000], []⟩) (H := fun (s : Int × (List Int)) => match s with | (p77, p78) => (⟨([.one (.ms 1000000 0 0 (p78.length) 1), .one (.v (.int .i64 a1)), .one (.v (.int .i64 a2))] ++ (und 3 ++ ([.one (.v (.int .i64 p77))] ++ (und 42))) : List PV), ([(1000000, ⟨0, 1, Zi .u64 p78, false, true⟩)] : Boxes)⟩ : ASt)) (by kernel_rfl) hr (by simp [-Zd, Zb, und, List.replicate, ]) ?_
 rintro ⟨p77, p78⟩ x127r hr127
 simp only [YU] at hr127
 unfold b68_1
 simp only [und, List.replicate, List.cons_append, List.nil_append]
 refine Zf ?_
 refine Za rfl (by simp [-Zd, Zb]; rfl) ?_
 by_cases c128 : p77 < a2
 ·skip
  rw [if_pos] at hr127
  rotate_left
  ·simp [-Zd, Zb, c128]
  refine Ze (by simp [-Zd, Zb, bV, c128]) ?_
  refine Zh ?_
  refine Zk ?_
  refine Za rfl (by simp [-Zd, Zb, c128]; rfl) ?_
  refine YT ?_
  refine ZbR hr127 (.exit 1) (fun (s : (List Int)) => match s with | p104 => (⟨([.one (.ms 1000000 0 0 (p104.length) 1), .one (.v (.int .i64 a1)), .one (.v (.int .i64 a2))] ++ (und 3 ++ ([.one (.v (.int .i64 p77))] ++ (und 42))) : List PV), ([(1000000, ⟨0, 1, Zi .u64 p104, false, true⟩)] : Boxes)⟩ : ASt)) (fun (s : (List Int)) => match s with | p104 => YD p77 p104) ?_ ?_
  ·skip
   rintro p104 hk146
   change YD p77 p104 = _ at hk146
   simp only [pq, reduceCtorEq]
   simp only [und, List.replicate, List.cons_append, List.nil_append]
   unfold YD at hk146
   refine ZbH rfl (kq := ⟨[0, 1, 2, 6], [1000000], []⟩) rfl (by simp [-Zd, Zb, Ys, c128]; rfl) (by simp [-Zd, Zb, c128]; rfl) ?_
   obtain rfl := Option.some.inj hk146
   simp only [pq, reduceCtorEq]
   simp [-Zd, Zb, und, List.replicate, Nat.add_assoc, c128]
  ·skip
   intro J146
   simp only [pq, reduceCtorEq] at J146
   refine ZU (kq := ⟨[0, 1, 2, 6, 7], [1000000], []⟩) (H := fun (s : Int × (List Int)) => match s with | (p103, p104) => (⟨([.one (.ms 1000000 0 0 (p104.length) 1), .one (.v (.int .i64 a1)), .one (.v (.int .i64 a2))] ++ (und 3 ++ ([.one (.v (.int .i64 p77)), .one (.v (.int .i64 p103))] ++ (und 41))) : List PV), ([(1000000, ⟨0, 1, Zi .u64 p104, false, true⟩)] : Boxes)⟩ : ASt)) (by kernel_rfl) hr127 (by simp [-Zd, Zb, und, List.replicate, c128]) ?_
   rintro ⟨p103, p104⟩ x147r hr147
   simp only [Yj] at hr147
   unfold b68_2
   simp only [und, List.replicate, List.cons_append, List.nil_append]
   refine Zf ?_
   by_cases c148 : a1 < p103
   ·skip
    rw [if_pos] at hr147
    rotate_left
    ·simp [-Zd, Zb, c128, c148]
    obtain ⟨z149, hz149, hr147⟩ := bs hr147
    obtain ⟨j150, hj150, hz149⟩ := bs hz149
    obtain ⟨j150a, j150b, j150c⟩ := Zm hj150
    obtain ⟨x151, hx151, hz149⟩ := bs hz149
    have ghx151 := Zq hx151
    obtain ⟨j152, hj152, hz149⟩ := bs hz149
    obtain ⟨j152a, j152b, j152c⟩ := Zm hj152
    obtain ⟨x153, hx153, hz149⟩ := bs hz149
    have ghx153 := Zq hx153
    obtain ⟨y154, hy154, hz149⟩ := bs hz149
    have ehy154 := ZaE hy154
    simp only [E39, R39, nf, nfs] at ehy154
    try simp only [Zb] at ehy154
    obtain rfl := Option.some.inj hz149
    refine Zt rfl (by simp [-Zd, Zb, j150a, j150b, j150c, hx151, ghx151, j152a, j152b, j152c, hx153, ghx153, hO, hT39, ehy154, c128, c148]; first | exact ⟨rfl, rfl⟩ | rfl) (by kernel_rfl) ?_
    by_cases c155 : y154 = true
    ·skip
     rw [if_pos] at hr147
     rotate_left
     ·simp [-Zd, Zb, c128, c148, c155]
     refine Ze (by simp [-Zd, Zb, bV, c128, c148, c155]) ?_
     refine Zh ?_
     refine Zk ?_
     obtain ⟨j156, hj156, hr147⟩ := bs hr147
     obtain ⟨j156a, j156b, j156c⟩ := Zm hj156
     obtain rfl : j152 = j156 := j152b.symm.trans j156b
     obtain ⟨x157, hx157, hr147⟩ := bs hr147
     have ghx157 := Zq hx157
     obtain ⟨j158, hj158, hr147⟩ := bs hr147
     obtain ⟨j158a, j158b, j158c⟩ := Zm hj158
     obtain rfl : j150 = j158 := j150b.symm.trans j158b
     obtain ⟨x159, hx159, hr147⟩ := bs hr147
     have ghx159 := Zq hx159
     obtain ⟨j150a, j150b, j150c⟩ := Zm hj158
     obtain ⟨j160, hj160, hr147⟩ := bs hr147
     obtain ⟨j160a, j160b, j160c⟩ := Zm hj160
     try simp only [List.length_set] at j160c
     obtain rfl : j152 = j160 := j152b.symm.trans j160b
     refine Zct rfl (by simp [-Zd, Zb, j156a, j156b, j156c, j152a, j152b, j152c, hx157, ghx157, j158a, j158b, j158c, j150a, j150b, j150c, hx159, ghx159, j160a, j160b, j160c, c128, c148, c155]; first | exact ⟨rfl, rfl⟩ | rfl) (by kernel_rfl) ?_
     simp only [pq, reduceCtorEq]
     refine ZA rfl (by simp [-Zd, Zb, c128, c148, c155]; rfl) ?_
     obtain rfl := Option.some.inj hr147
     simp only [pq, reduceCtorEq]
     simp [-Zd, Zb, und, List.replicate, Nat.add_assoc, c128, c148, c155]
    ·skip
     rw [if_neg] at hr147
     rotate_left
     ·simp [-Zd, Zb, c128, c148, c155]
     refine Zg (by simp [-Zd, Zb, bV, c128, c148, c155]) ?_
     refine Zo ?_
     obtain ⟨r161, q161, rfl⟩ := ms hr147
     simp only [pq, reduceCtorEq]
     rintro rfl
     try simp only [pq, reduceCtorEq]
     exact ZK (key := 1000002) (kq := ⟨[0, 1, 2, 6], [1000000], []⟩) rfl rfl rfl (by simp [-Zd, Zb, und, List.replicate, c128, c148, c155]) (J146 p104 q161)
   ·skip
    rw [if_neg] at hr147
    rotate_left
    ·simp [-Zd, Zb, c128, c148]
    obtain ⟨z162, hz162, hr147⟩ := bs hr147
    obtain rfl := Option.some.inj hz162
    refine Zt rfl (by simp [-Zd, Zb, c128, c148]; first | exact ⟨rfl, rfl⟩ | rfl) (by kernel_rfl) ?_
    rw [if_neg] at hr147
    rotate_left
    ·simp [-Zd, Zb, c128, c148]
    refine Zg (by simp [-Zd, Zb, bV, c128, c148]) ?_
    refine Zo ?_
    obtain ⟨r163, q163, rfl⟩ := ms hr147
    simp only [pq, reduceCtorEq]
    rintro rfl
    try simp only [pq, reduceCtorEq]
    exact ZK (key := 1000002) (kq := ⟨[0, 1, 2, 6], [1000000], []⟩) rfl rfl rfl (by simp [-Zd, Zb, und, List.replicate, c128, c148]) (J146 p104 q163)
 ·skip
  rw [if_neg] at hr127
  rotate_left
  ·simp [-Zd, Zb, c128]
  refine Zg (by simp [-Zd, Zb, bV, c128]) ?_
  refine Zo ?_
  obtain ⟨_, u164, hr127⟩ := bs hr127
  have u164_0 := Zp u164
  obtain rfl := Option.some.inj hr127
  simp only [pq, reduceCtorEq]
  rintro rfl
  simp [-Zd, Zb, Zn, u164_0, c128]
def kp78_4 : Keep := fun i => if i = 1 then ⟨[0, 2, 3, 8], [1000000], []⟩ else if i = 1000005 then ⟨[0, 2, 3, 8, 9], [1000000], []⟩ else ⟨[], [], []⟩
theorem Zpc {T : Tab} (hO : T.own = fun _ => []) (hT39 : T 39 = some G39) (a0 : (List Int)) (a1 : Int) (a2 : Int) (a3 : Int) (x : (List Int)) (hr : Yu a0 a1 a2 a3 = some x) : ∃ kp fl n, ZI tt T G kp fl n Try.f78 (ZdI (a0, a1, a2, a3)) = some (Zfm (a0, a1, a2, a3) x) := by
 simp only [ZdI, Zfm]
 refine fnE (kp := kp78_4) (w := false) body78 (by simp) ?_
 unfold c78
 rw [Try.ntmps78]
 unfold Yu at hr
 refine Za rfl (by simp [-Zd, Zb]; rfl) ?_
 refine YT ?_
 refine ZU (kq := ⟨[0, 2, 3, 8], [1000000], []⟩) (H := fun (s : Int × (List Int)) => match s with | (p29, p30) => (⟨([.one (.ms 1000000 0 0 (p30.length) 1)] ++ (und 1 ++ ([.one (.v (.int .i64 a2)), .one (.v (.int .i64 a3))] ++ (und 4 ++ ([.one (.v (.int .i64 p29))] ++ (und 67))))) : List PV), ([(1000000, ⟨0, 1, Zi .u64 p30, false, true⟩)] : Boxes)⟩ : ASt)) (by kernel_rfl) hr (by simp [-Zd, Zb, und, List.replicate, ]) ?_
 rintro ⟨p29, p30⟩ x44r hr44
 simp only [Z4] at hr44
 unfold b78_1
 simp only [und, List.replicate, List.cons_append, List.nil_append]
 refine YT ?_
 refine Za rfl (by simp [-Zd, Zb]; rfl) ?_
 refine Zf ?_
 refine Za rfl (by simp [-Zd, Zb]; rfl) ?_
 by_cases c45 : a2 ≤ IntKind.i64.wrap ((IntKind.i64.wrap (2 * p29)) + 1)
 ·skip
  rw [if_pos] at hr44
  rotate_left
  ·simp [-Zd, Zb, c45]
  refine Ze (by simp [-Zd, Zb, bV, c45]) ?_
  refine Zo ?_
  obtain ⟨_, u46, hr44⟩ := bs hr44
  have u46_0 := Zp u46
  obtain rfl := Option.some.inj hr44
  simp only [pq, reduceCtorEq]
  rintro rfl
  simp [-Zd, Zb, Zn, u46_0, c45]
 ·skip
  rw [if_neg] at hr44
  rotate_left
  ·simp [-Zd, Zb, c45]
  refine Zg (by simp [-Zd, Zb, bV, c45]) ?_
  refine Zh ?_
  refine Zf ?_
  by_cases c47 : IntKind.i64.wrap ((IntKind.i64.wrap ((IntKind.i64.wrap (2 * p29)) + 1)) + 1) < a2
  ·skip
   rw [if_pos] at hr44
   rotate_left
   ·simp [-Zd, Zb, c45, c47]
   obtain ⟨z48, hz48, hr44⟩ := bs hr44
   obtain ⟨j49, hj49, hz48⟩ := bs hz48
   obtain ⟨j49a, j49b, j49c⟩ := Zm hj49
   obtain ⟨x50, hx50, hz48⟩ := bs hz48
   have ghx50 := Zq hx50
   obtain ⟨j51, hj51, hz48⟩ := bs hz48
   obtain ⟨j51a, j51b, j51c⟩ := Zm hj51
   obtain ⟨x52, hx52, hz48⟩ := bs hz48
   have ghx52 := Zq hx52
   obtain ⟨y53, hy53, hz48⟩ := bs hz48
   have ehy53 := ZaE hy53
   simp only [E39, R39, nf, nfs] at ehy53
   try simp only [Zb] at ehy53
   obtain rfl := Option.some.inj hz48
   refine Zt rfl (by simp [-Zd, Zb, j49a, j49b, j49c, hx50, ghx50, j51a, j51b, j51c, hx52, ghx52, hO, hT39, ehy53, c45, c47]; first | exact ⟨rfl, rfl⟩ | rfl) (by kernel_rfl) ?_
   refine Za2 hr44 (fun (s : Int) => match s with | p37 => (⟨([.one (.ms 1000000 0 0 (p30.length) 1)] ++ (und 1 ++ ([.one (.v (.int .i64 a2)), .one (.v (.int .i64 a3))] ++ (und 4 ++ ([.one (.v (.int .i64 p29)), .one (.v (.int .i64 p37))] ++ (und 66))))) : List PV), ([(1000000, ⟨0, 1, Zi .u64 p30, false, true⟩)] : Boxes)⟩ : ASt)) (fun (s : Int) => match s with | p37 => Z3 p30 a3 p29 a0 p37) ?_ ?_
   ·skip
    rintro p37 hk55
    change Z3 p30 a3 p29 a0 p37 = _ at hk55
    simp only [und, List.replicate, List.cons_append, List.nil_append]
    unfold Z3 at hk55
    refine Zf ?_
    obtain ⟨j56, hj56, hk55⟩ := bs hk55
    obtain ⟨j56a, j56b, j56c⟩ := Zm hj56
    obtain ⟨x57, hx57, hk55⟩ := bs hk55
    have ghx57 := Zq hx57
    obtain ⟨j58, hj58, hk55⟩ := bs hk55
    obtain ⟨j58a, j58b, j58c⟩ := Zm hj58
    obtain ⟨x59, hx59, hk55⟩ := bs hk55
    have ghx59 := Zq hx59
    obtain ⟨y60, hy60, hk55⟩ := bs hk55
    have ehy60 := ZaE hy60
    simp only [E39, R39, nf, nfs] at ehy60
    try simp only [Zb] at ehy60
    refine ZaT rfl (kq := ⟨[0, 2, 3, 8, 9], [1000000], []⟩) rfl (by simp [-Zd, Zb, Ys, j56a, j56b, j56c, hx57, ghx57, j58a, j58b, j58c, hx59, ghx59, hO, hT39, ehy60, c45, c47]; rfl) (by simp [-Zd, Zb, j56a, j56b, j56c, hx57, ghx57, j58a, j58b, j58c, hx59, ghx59, hO, hT39, ehy60, c45, c47]; first | exact ⟨rfl, rfl⟩ | rfl) (by kernel_rfl) ?_
    by_cases c61 : y60 = true
    ·skip
     rw [if_neg (not_not_intro c61)] at hk55
     refine Zg (by simp [-Zd, Zb, bV, c45, c47, c61]) ?_
     refine Zh ?_
     obtain ⟨j58a, j58b, j58c⟩ := Zm hj58
     have ghx59 := Zq hx59
     obtain ⟨j56a, j56b, j56c⟩ := Zm hj56
     have ghx57 := Zq hx57
     obtain ⟨j56a, j56b, j56c⟩ := Zm hj56
     obtain ⟨j62, hj62, hk55⟩ := bs hk55
     obtain ⟨j62a, j62b, j62c⟩ := Zm hj62
     try simp only [List.length_set] at j62c
     obtain rfl : j58 = j62 := j58b.symm.trans j62b
     refine Zt rfl (by simp [-Zd, Zb, j58a, j58b, j58c, hx59, ghx59, j56a, j56b, j56c, hx57, ghx57, j62a, j62b, j62c, c45, c47, c61]; first | exact ⟨rfl, rfl⟩ | rfl) (by kernel_rfl) ?_
     refine ZA rfl (by simp [-Zd, Zb, c45, c47, c61]; rfl) ?_
     obtain rfl := Option.some.inj hk55
     simp only [pq, reduceCtorEq]
     simp [-Zd, Zb, und, List.replicate, Nat.add_assoc, c45, c47, c61]
    ·skip
     rw [if_pos c61] at hk55
     refine Ze (by simp [-Zd, Zb, bV, c45, c47, c61]) ?_
     refine Zl ?_
     obtain ⟨_, u63, hk55⟩ := bs hk55
     have u63_0 := Zp u63
     obtain rfl := Option.some.inj hk55
     simp only [pq, reduceCtorEq]
     rintro rfl
     simp [-Zd, Zb, Zn, j56a, j56b, j56c, hx57, ghx57, j58a, j58b, j58c, hx59, ghx59, hO, hT39, ehy60, u63_0, c45, c47, c61]
   ·skip
    intro J55
    by_cases c64 : y53 = true
    ·skip
     rw [if_pos] at hr44
     rotate_left
     ·simp [-Zd, Zb, c45, c47, c64]
     refine Ze (by simp [-Zd, Zb, bV, c45, c47, c64]) ?_
     refine Za rfl (by simp [-Zd, Zb, c45, c47, c64]; rfl) ?_
     exact ZK (key := 1000005) (kq := ⟨[0, 2, 3, 8, 9], [1000000], []⟩) rfl rfl rfl (by simp [-Zd, Zb, und, List.replicate, c45, c47, c64]) (J55 (IntKind.i64.wrap ((IntKind.i64.wrap ((IntKind.i64.wrap (2 * p29)) + 1)) + 1)) hr44)
    ·skip
     rw [if_neg] at hr44
     rotate_left
     ·simp [-Zd, Zb, c45, c47, c64]
     refine Zg (by simp [-Zd, Zb, bV, c45, c47, c64]) ?_
     refine Zh ?_
     exact ZK (key := 1000005) (kq := ⟨[0, 2, 3, 8, 9], [1000000], []⟩) rfl rfl rfl (by simp [-Zd, Zb, und, List.replicate, c45, c47, c64]) (J55 (IntKind.i64.wrap ((IntKind.i64.wrap (2 * p29)) + 1)) hr44)
  ·skip
   rw [if_neg] at hr44
   rotate_left
   ·simp [-Zd, Zb, c45, c47]
   obtain ⟨z65, hz65, hr44⟩ := bs hr44
   obtain rfl := Option.some.inj hz65
   refine Zt rfl (by simp [-Zd, Zb, c45, c47]; first | exact ⟨rfl, rfl⟩ | rfl) (by kernel_rfl) ?_
   rw [if_neg] at hr44
   rotate_left
   ·simp [-Zd, Zb, c45, c47]
   refine Zg (by simp [-Zd, Zb, bV, c45, c47]) ?_
   refine Zh ?_
   unfold Z3 at hr44
   refine Zf ?_
   obtain ⟨j66, hj66, hr44⟩ := bs hr44
   obtain ⟨j66a, j66b, j66c⟩ := Zm hj66
   obtain ⟨x67, hx67, hr44⟩ := bs hr44
   have ghx67 := Zq hx67
   obtain ⟨j68, hj68, hr44⟩ := bs hr44
   obtain ⟨j68a, j68b, j68c⟩ := Zm hj68
   obtain ⟨x69, hx69, hr44⟩ := bs hr44
   have ghx69 := Zq hx69
   obtain ⟨y70, hy70, hr44⟩ := bs hr44
   have ehy70 := ZaE hy70
   simp only [E39, R39, nf, nfs] at ehy70
   try simp only [Zb] at ehy70
   refine ZaT rfl (kq := ⟨[0, 2, 3, 8, 9], [1000000], []⟩) rfl (by simp [-Zd, Zb, Ys, j66a, j66b, j66c, hx67, ghx67, j68a, j68b, j68c, hx69, ghx69, hO, hT39, ehy70, c45, c47]; rfl) (by simp [-Zd, Zb, j66a, j66b, j66c, hx67, ghx67, j68a, j68b, j68c, hx69, ghx69, hO, hT39, ehy70, c45, c47]; first | exact ⟨rfl, rfl⟩ | rfl) (by kernel_rfl) ?_
   by_cases c71 : y70 = true
   ·skip
    rw [if_neg (not_not_intro c71)] at hr44
    refine Zg (by simp [-Zd, Zb, bV, c45, c47, c71]) ?_
    refine Zh ?_
    obtain ⟨j68a, j68b, j68c⟩ := Zm hj68
    have ghx69 := Zq hx69
    obtain ⟨j66a, j66b, j66c⟩ := Zm hj66
    have ghx67 := Zq hx67
    obtain ⟨j66a, j66b, j66c⟩ := Zm hj66
    obtain ⟨j72, hj72, hr44⟩ := bs hr44
    obtain ⟨j72a, j72b, j72c⟩ := Zm hj72
    try simp only [List.length_set] at j72c
    obtain rfl : j68 = j72 := j68b.symm.trans j72b
    refine Zt rfl (by simp [-Zd, Zb, j68a, j68b, j68c, hx69, ghx69, j66a, j66b, j66c, hx67, ghx67, j72a, j72b, j72c, c45, c47, c71]; first | exact ⟨rfl, rfl⟩ | rfl) (by kernel_rfl) ?_
    refine ZA rfl (by simp [-Zd, Zb, c45, c47, c71]; rfl) ?_
    obtain rfl := Option.some.inj hr44
    simp only [pq, reduceCtorEq]
    simp [-Zd, Zb, und, List.replicate, Nat.add_assoc, c45, c47, c71]
   ·skip
    rw [if_pos c71] at hr44
    refine Ze (by simp [-Zd, Zb, bV, c45, c47, c71]) ?_
    refine Zl ?_
    obtain ⟨_, u73, hr44⟩ := bs hr44
    have u73_0 := Zp u73
    obtain rfl := Option.some.inj hr44
    simp only [pq, reduceCtorEq]
    rintro rfl
    simp [-Zd, Zb, Zn, j66a, j66b, j66c, hx67, ghx67, j68a, j68b, j68c, hx69, ghx69, hO, hT39, ehy70, u73_0, c45, c47, c71]
def kp69_5 : Keep := fun i => if i = 4 then ⟨[0, 6, 7, 8, 9], [1000000], []⟩ else if i = 8 then ⟨[0, 6, 7, 10], [1000000], []⟩ else ⟨[], [], []⟩
theorem Zpd {T : Tab} (hO : T.own = fun d => if d = 26 then [[1000001]] else if d = 55 then [[1000001]] else []) (hT78 : T 78 = some G78_4) (a0 : (List Int)) (a1 : Int) (a2 : Int) (x : (List Int)) (hr : Yv a0 a1 a2 = some x) : ∃ kp fl n, ZI tt T G kp fl n Try.f69 (Zd7 (a0, a1, a2)) = some (Zf3 (a0, a1, a2) x) := by
 simp only [Zd7, Zf3]
 refine fnE (kp := kp69_5) (w := false) body69 (by simp) ?_
 unfold c69
 rw [Try.ntmps69]
 unfold Yv at hr
 refine Za rfl (by simp [-Zd, Zb]; rfl) ?_
 refine Za rfl (by simp [-Zd, Zb]; rfl) ?_
 refine Za rfl (by simp [-Zd, Zb]; rfl) ?_
 refine Zf ?_
 refine Za rfl (by simp [-Zd, Zb]; rfl) ?_
 refine Zk ?_
 refine ZU (kq := ⟨[0, 6, 7, 8, 9], [1000000], []⟩) (H := fun (s : Int × (List Int)) => match s with | (p7, p8) => (⟨([.one (.ms 1000000 0 0 (p8.length) 1)] ++ (und 5 ++ ([.one (.v (.int .i64 a1)), .one (.v (.int .i64 0)), .one (.v (.int .i64 (IntKind.i64.wrap (a2 - a1)))), .one (.v (.int .i64 p7))] ++ (und 46))) : List PV), ([(1000000, ⟨0, 1, Zi .u64 p8, false, true⟩)] : Boxes)⟩ : ASt)) (by kernel_rfl) hr (by simp [-Zd, Zb, und, List.replicate, ]) ?_
 rintro ⟨p7, p8⟩ x44r hr44
 simp only [Xa] at hr44
 unfold b69_1
 simp only [und, List.replicate, List.cons_append, List.nil_append]
 refine Zf ?_
 refine Za rfl (by simp [-Zd, Zb]; rfl) ?_
 by_cases c45 : 0 ≤ p7
 ·skip
  rw [if_pos] at hr44
  rotate_left
  ·simp [-Zd, Zb, c45]
  refine Ze (by simp [-Zd, Zb, bV, c45]) ?_
  refine Zh ?_
  refine Zk ?_
  obtain ⟨y46, hy46, hr44⟩ := bs hr44
  have ehy46 := ZiR hy46
  simp only [ZdI, Zfm, nf, nfs] at ehy46
  try simp only [Zb] at ehy46
  obtain ⟨_, u47, hr44⟩ := bs hr44
  have u47_0 := Zp u47
  have ck48 := Ya (k := .u64) u47_0
  refine ZA rfl (by simp [-Zd, Zb, hO, hT78, ehy46, ck48, u47_0, c45]; rfl) ?_
  simp only [pq, reduceCtorEq]
  refine ZA rfl (by simp [-Zd, Zb, c45, u47_0]; rfl) ?_
  obtain rfl := Option.some.inj hr44
  simp only [pq, reduceCtorEq]
  simp [-Zd, Zb, und, List.replicate, Nat.add_assoc, c45, u47_0]
 ·skip
  rw [if_neg] at hr44
  rotate_left
  ·simp [-Zd, Zb, c45]
  refine Zg (by simp [-Zd, Zb, bV, c45]) ?_
  refine Zo ?_
  obtain ⟨r49, q49, rfl⟩ := ms hr44
  simp only [pq, reduceCtorEq]
  rintro rfl
  try simp only [pq, reduceCtorEq]
  unfold XL at q49
  refine Za rfl (by simp [-Zd, Zb, c45]; rfl) ?_
  refine YT ?_
  refine ZU (kq := ⟨[0, 6, 7, 10], [1000000], []⟩) (H := fun (s : Int × (List Int)) => match s with | (p27, p28) => (⟨([.one (.ms 1000000 0 0 (p28.length) 1)] ++ (und 5 ++ ([.one (.v (.int .i64 a1)), .one (.v (.int .i64 0))] ++ (und 2 ++ ([.one (.v (.int .i64 p27))] ++ (und 45))))) : List PV), ([(1000000, ⟨0, 1, Zi .u64 p28, false, true⟩)] : Boxes)⟩ : ASt)) (by kernel_rfl) q49 (by simp [-Zd, Zb, und, List.replicate, c45]) ?_
  rintro ⟨p27, p28⟩ x50r hr50
  simp only [Y9] at hr50
  unfold b69_2
  simp only [und, List.replicate, List.cons_append, List.nil_append]
  refine Zf ?_
  refine Za rfl (by simp [-Zd, Zb, c45]; rfl) ?_
  by_cases c51 : 0 ≤ p27
  ·skip
   rw [if_pos] at hr50
   rotate_left
   ·simp [-Zd, Zb, c45, c51]
   refine Ze (by simp [-Zd, Zb, bV, c45, c51]) ?_
   refine Zh ?_
   refine Zk ?_
   obtain ⟨j52, hj52, hr50⟩ := bs hr50
   obtain ⟨j52a, j52b, j52c⟩ := Zm hj52
   obtain ⟨x53, hx53, hr50⟩ := bs hr50
   have ghx53 := Zq hx53
   obtain ⟨j54, hj54, hr50⟩ := bs hr50
   obtain ⟨j54a, j54b, j54c⟩ := Zm hj54
   obtain ⟨x55, hx55, hr50⟩ := bs hr50
   have ghx55 := Zq hx55
   obtain ⟨j54a, j54b, j54c⟩ := Zm hj54
   obtain ⟨j56, hj56, hr50⟩ := bs hr50
   obtain ⟨j56a, j56b, j56c⟩ := Zm hj56
   try simp only [List.length_set] at j56c
   obtain rfl : j52 = j56 := j52b.symm.trans j56b
   refine Zt rfl (by simp [-Zd, Zb, j52a, j52b, j52c, hx53, ghx53, j54a, j54b, j54c, hx55, ghx55, j56a, j56b, j56c, c45, c51]; first | exact ⟨rfl, rfl⟩ | rfl) (by kernel_rfl) ?_
   obtain ⟨y57, hy57, hr50⟩ := bs hr50
   have ehy57 := ZiR hy57
   simp only [ZdI, Zfm, nf, nfs] at ehy57
   try simp only [Zb] at ehy57
   obtain ⟨_, u58, hr50⟩ := bs hr50
   have u58_0 := Zp u58
   have ck59 := Ya (k := .u64) u58_0
   simp only [List.length_set] at ck59 u58_0
   refine ZA rfl (by simp [-Zd, Zb, hO, hT78, ehy57, ck59, u58_0, c45, c51]; rfl) ?_
   simp only [pq, reduceCtorEq]
   refine ZA rfl (by simp [-Zd, Zb, c45, c51, u58_0]; rfl) ?_
   obtain rfl := Option.some.inj hr50
   simp only [pq, reduceCtorEq]
   simp [-Zd, Zb, und, List.replicate, Nat.add_assoc, c45, c51, u58_0]
  ·skip
   rw [if_neg] at hr50
   rotate_left
   ·simp [-Zd, Zb, c45, c51]
   refine Zg (by simp [-Zd, Zb, bV, c45, c51]) ?_
   refine Zo ?_
   obtain ⟨_, u60, hr50⟩ := bs hr50
   have u60_0 := Zp u60
   obtain rfl := Option.some.inj hr50
   simp only [pq, reduceCtorEq]
   rintro rfl
   simp [-Zd, Zb, Zn, u60_0, c45, c51]
def kp72_6 : Keep := fun i => if i = 2 then ⟨[0, 6, 7], [1000000], []⟩ else ⟨[], [], []⟩
theorem Zpe {T : Tab} (a0 : (List Int)) (a1 : Int) (a2 : Int) (x : (List Int)) (hr : Yi a0 a1 a2 = some x) : ∃ kp fl n, ZI tt T G kp fl n Try.f72 (Zd8 (a0, a1, a2)) = some (Zf4 (a0, a1, a2) x) := by
 simp only [Zd8, Zf4]
 refine fnE (kp := kp72_6) (w := false) body72 (by simp) ?_
 unfold c72
 rw [Try.ntmps72]
 unfold Yi at hr
 refine Za rfl (by simp [-Zd, Zb]; rfl) ?_
 refine Za rfl (by simp [-Zd, Zb]; rfl) ?_
 refine YT ?_
 refine ZU (kq := ⟨[0, 6, 7], [1000000], []⟩) (H := fun (s : Int × Int × (List Int)) => match s with | (p14, p15, p16) => (⟨([.one (.ms 1000000 0 0 (p16.length) 1)] ++ (und 5 ++ ([.one (.v (.int .i64 p14)), .one (.v (.int .i64 p15))] ++ (und 24))) : List PV), ([(1000000, ⟨0, 1, Zi .u64 p16, false, true⟩)] : Boxes)⟩ : ASt)) (by kernel_rfl) hr (by simp [-Zd, Zb, und, List.replicate, ]) ?_
 rintro ⟨p14, p15, p16⟩ x22r hr22
 simp only [YW] at hr22
 unfold b72_1
 simp only [und, List.replicate, List.cons_append, List.nil_append]
 refine Zf ?_
 refine Za rfl (by simp [-Zd, Zb]; rfl) ?_
 by_cases c23 : p14 < p15
 ·skip
  rw [if_pos] at hr22
  rotate_left
  ·simp [-Zd, Zb, c23]
  refine Ze (by simp [-Zd, Zb, bV, c23]) ?_
  refine Zh ?_
  refine YT ?_
  obtain ⟨j24, hj24, hr22⟩ := bs hr22
  obtain ⟨j24a, j24b, j24c⟩ := Zm hj24
  obtain ⟨x25, hx25, hr22⟩ := bs hr22
  have ghx25 := Zq hx25
  obtain ⟨j26, hj26, hr22⟩ := bs hr22
  obtain ⟨j26a, j26b, j26c⟩ := Zm hj26
  obtain ⟨x27, hx27, hr22⟩ := bs hr22
  have ghx27 := Zq hx27
  obtain ⟨j26a, j26b, j26c⟩ := Zm hj26
  obtain ⟨j28, hj28, hr22⟩ := bs hr22
  obtain ⟨j28a, j28b, j28c⟩ := Zm hj28
  try simp only [List.length_set] at j28c
  obtain rfl : j24 = j28 := j24b.symm.trans j28b
  refine Zt rfl (by simp [-Zd, Zb, j24a, j24b, j24c, hx25, ghx25, j26a, j26b, j26c, hx27, ghx27, j28a, j28b, j28c, c23]; first | exact ⟨rfl, rfl⟩ | rfl) (by kernel_rfl) ?_
  refine Za rfl (by simp [-Zd, Zb, c23]; rfl) ?_
  refine ZA rfl (by simp [-Zd, Zb, c23]; rfl) ?_
  obtain rfl := Option.some.inj hr22
  simp only [pq, reduceCtorEq]
  simp [-Zd, Zb, und, List.replicate, Nat.add_assoc, c23]
 ·skip
  rw [if_neg] at hr22
  rotate_left
  ·simp [-Zd, Zb, c23]
  refine Zg (by simp [-Zd, Zb, bV, c23]) ?_
  refine Zo ?_
  obtain ⟨_, u29, hr22⟩ := bs hr22
  have u29_0 := Zp u29
  obtain rfl := Option.some.inj hr22
  simp only [pq, reduceCtorEq]
  rintro rfl
  simp [-Zd, Zb, Zn, u29_0, c23]
end Go.Proofs.Ytmjbklblgpnagaa
