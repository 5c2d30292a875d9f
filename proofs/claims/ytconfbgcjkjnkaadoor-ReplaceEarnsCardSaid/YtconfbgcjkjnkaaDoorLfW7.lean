import Derived.Test.YtconfbgcjkjnkaaDoorLfK
import Derived.Test.YtconfbgcjkjnkaaDoorCode
namespace Go.Proofs.YtconfbgcjkjnkaaDoor
open Go.RowKit
open Go.Av
open Go.Lc
set_option maxRecDepth 100000
set_option linter.unusedSimpArgs false
set_option linter.unusedVariables false
set_option maxHeartbeats 4000000
theorem w15 : Walk tt G [(10, K10.G), (17, K17.G)] (fun _ => []) Tryd.f15 K15 := by
 refine .of [(3, ⟨[0, 5, 6], [93, 1000000], [(5, none, 93, 5)]⟩), (8, ⟨[0, 5, 6, 7, 8, 27, 28], [7, 24, 93, 100024, 1000000], []⟩), (11, ⟨[0, 5, 6, 7, 8, 9, 27, 28, 35, 36], [7, 24, 93, 100024, 1000000], []⟩), (16, ⟨[0, 5, 6, 7, 8, 9, 27, 28, 56, 57, 58], [7, 24, 93, 100024, 1000000], []⟩), (19, ⟨[0, 5, 6, 7, 8, 9, 27, 28, 56, 57, 58, 64, 65, 66], [7, 24, 93, 100024, 1000000], []⟩), (1000004, ⟨[0, 5, 6], [93, 1000000], []⟩)] true body15 Tryd.ntmps15 fun T hO hT ⟨a0, a1⟩ x hr => ⟨by simp, ?_⟩
 simp only [tabAll] at hT; simp only at hr ⊢; unfold c15
 unfold Lmill_Pool at hr
 refine go ?_
 obtain ⟨_, ehy1069, hr⟩ := bN hr G17_eq
 refine go ?_
 refine lp 3 (fun (⟨p477, p478, p479⟩ : Int × Tlightclientmill_Deck × (List Tapi_Entry)) => ⟨([.ptr 1000000 0 0 0 2] ++ (und 4 ++ ([.one (.ms 93 0 0 (p479.length) 5), .one (.v (.int .i64 p477))] ++ (und 88))) : List PV), ([(93, ⟨0, 5, List.map eapi_Entry p479, false, true⟩), (1000000, ⟨0, 2, [[.slice .no (intsR .i64 p478.1), .v (.int .i64 p478.2)]], false, false⟩)] : Boxes)⟩) hr ?_
 rintro ⟨p477, p478, p479⟩ x1225r hr1225
 simp only [Lmill_Pool_s1] at hr1225
 unfold b15_1
 refine nst ?_
 refine go ?_
 by_cases c1226 : 0 < p477
 ·replace hr1225 := ifP hr1225
  refine go ?_
  obtain ⟨y1227, ehy1227, hr1225⟩ := bN hr1225 G10_eq
  refine go ?_
  refine lp 8 (fun (⟨p878, p879⟩ : Bool × Int) => ⟨([.ptr 1000000 0 0 0 2] ++ (und 4 ++ ([.one (.ms 93 0 0 (p479.length) 5), .one (.v (.int .i64 p477)), .ptr 7 0 0 0 4, .one (.v (.bool p878))] ++ (und 18 ++ ([.one (.v (.int .i64 (y1227.1.2.1.length : Int))), .one (.v (.int .i64 p879))] ++ (und 66))))) : List PV), ([(7, ⟨0, 4, [[.v (.int .u32 y1227.1.1), .ms 24 0 0 (y1227.1.2.1.length) 35, .ms 100024 0 0 (y1227.1.2.2.1.length) 2, .v (.int .u32 y1227.1.2.2.2)]], false, false⟩), (24, ⟨0, 35, List.map eapi_Input y1227.1.2.1, false, true⟩), (93, ⟨0, 5, List.map eapi_Entry p479, false, true⟩), (100024, ⟨0, 2, List.map eapi_Output y1227.1.2.2.1, false, true⟩), (1000000, ⟨0, 2, [[.slice .no (intsR .i64 y1227.2.1), .v (.int .i64 y1227.2.2)]], false, false⟩)] : Boxes)⟩) hr1225 ?_
  rintro ⟨p878, p879⟩ x1300r hr1300
  simp only [Lmill_Pool_s2] at hr1300
  unfold b15_2
  refine nst ?_
  refine go ?_
  by_cases c1301 : p879 < (y1227.1.2.1.length : Int)
  ·have c1301N := nrm c1301
   replace hr1300 := ifP hr1300
   refine go ?_
   obtain ⟨⟨_, _⟩, hr1300⟩ := bC hr1300
   have sf1303 : (p879).toNat ≤ y1227.1.2.1.length := by omega
   have sf1304 : 0 ≤ p879 := by omega
   refine go ?_
   refine lp 11 (fun (⟨p977, p978⟩ : Bool × Int) => ⟨([.ptr 1000000 0 0 0 2] ++ (und 4 ++ ([.one (.ms 93 0 0 (p479.length) 5), .one (.v (.int .i64 p477)), .ptr 7 0 0 0 4, .one (.v (.bool p977)), .one (.v (.int .i64 p879))] ++ (und 17 ++ ([.one (.v (.int .i64 (y1227.1.2.1.length : Int))), .one (.v (.int .i64 p879))] ++ (und 6 ++ ([.one (.v (.int .i64 ((p879).toNat : Int))), .one (.v (.int .i64 p978))] ++ (und 58))))))) : List PV), ([(7, ⟨0, 4, [[.v (.int .u32 y1227.1.1), .ms 24 0 0 (y1227.1.2.1.length) 35, .ms 100024 0 0 (y1227.1.2.2.1.length) 2, .v (.int .u32 y1227.1.2.2.2)]], false, false⟩), (24, ⟨0, 35, List.map eapi_Input y1227.1.2.1, false, true⟩), (93, ⟨0, 5, List.map eapi_Entry p479, false, true⟩), (100024, ⟨0, 2, List.map eapi_Output y1227.1.2.2.1, false, true⟩), (1000000, ⟨0, 2, [[.slice .no (intsR .i64 y1227.2.1), .v (.int .i64 y1227.2.2)]], false, false⟩)] : Boxes)⟩) hr1300 ?_
   rintro ⟨p977, p978⟩ x1315r hr1315
   simp only [Lmill_Pool_s3] at hr1315
   unfold b15_3
   refine nst ?_
   refine go ?_
   by_cases c1316 : p978 < ((p879).toNat : Int)
   ·have c1316N := nrm c1316
    replace hr1315 := ifP hr1315
    refine go ?_
    by_cases c1317 : p977 = true
    ·replace hr1315 := ifPb hr1315
     obtain ⟨_, hz1318, hr1315⟩ := bs hr1315
     obtain rfl := Option.some.inj hz1318
     refine go ?_
     exact bk hr1315
    ·replace hr1315 := ifNb hr1315
     obtain ⟨_, hz1319, hr1315⟩ := bs hr1315
     obtain ⟨_, ⟨_, _, _⟩, hz1319⟩ := bA hz1319
     obtain ⟨_, hx1321, hz1319⟩ := bs hz1319
     have ghx1321 := getE_of hx1321
     obtain ⟨_, ⟨_, _, _⟩, hz1319⟩ := bA hz1319
     obtain ⟨_, hx1323, hz1319⟩ := bs hz1319
     have ghx1323 := getE_of hx1323
     obtain rfl := Option.some.inj hz1319
     refine go ?_
     exact bk hr1315
   ·have c1316N := nrm c1316
    replace hr1315 := ifN hr1315
    refine go ?_
    obtain ⟨r1324, q1324, rfl⟩ := ms hr1315
    refine go ?_
    rintro rfl
    refine go ?_
    unfold Lmill_Pool_k4 at q1324
    refine go ?_
    refine lp 16 (fun (⟨p1022, p1023⟩ : Bool × Int) => ⟨([.ptr 1000000 0 0 0 2] ++ (und 4 ++ ([.one (.ms 93 0 0 (p479.length) 5), .one (.v (.int .i64 p477)), .ptr 7 0 0 0 4, .one (.v (.bool p1022)), .one (.v (.int .i64 p879))] ++ (und 17 ++ ([.one (.v (.int .i64 (y1227.1.2.1.length : Int))), .one (.v (.int .i64 p879))] ++ (und 27 ++ ([.one (.ms 93 0 0 (p479.length) 5), .one (.v (.int .i64 (p479.length : Int))), .one (.v (.int .i64 p1023))] ++ (und 36))))))) : List PV), ([(7, ⟨0, 4, [[.v (.int .u32 y1227.1.1), .ms 24 0 0 (y1227.1.2.1.length) 35, .ms 100024 0 0 (y1227.1.2.2.1.length) 2, .v (.int .u32 y1227.1.2.2.2)]], false, false⟩), (24, ⟨0, 35, List.map eapi_Input y1227.1.2.1, false, true⟩), (93, ⟨0, 5, List.map eapi_Entry p479, false, true⟩), (100024, ⟨0, 2, List.map eapi_Output y1227.1.2.2.1, false, true⟩), (1000000, ⟨0, 2, [[.slice .no (intsR .i64 y1227.2.1), .v (.int .i64 y1227.2.2)]], false, false⟩)] : Boxes)⟩) q1324 ?_
    rintro ⟨p1022, p1023⟩ x1348r hr1348
    simp only [Lmill_Pool_s4] at hr1348
    unfold b15_4
    refine nst ?_
    refine go ?_
    by_cases c1349 : p1023 < (p479.length : Int)
    ·have c1349N := nrm c1349
     replace hr1348 := ifP hr1348
     refine go ?_
     obtain ⟨_, ⟨_, _, _⟩, hr1348⟩ := bA hr1348
     obtain ⟨x1351, hx1351, hr1348⟩ := bs hr1348
     have ghx1351 := getE_of hx1351
     refine go ?_
     refine lp 19 (fun (⟨p1054, p1055⟩ : Bool × Int) => ⟨([.ptr 1000000 0 0 0 2] ++ (und 4 ++ ([.one (.ms 93 0 0 (p479.length) 5), .one (.v (.int .i64 p477)), .ptr 7 0 0 0 4, .one (.v (.bool p1054)), .one (.v (.int .i64 p879))] ++ (und 17 ++ ([.one (.v (.int .i64 (y1227.1.2.1.length : Int))), .one (.v (.int .i64 p879))] ++ (und 27 ++ ([.one (.ms 93 0 0 (p479.length) 5), .one (.v (.int .i64 (p479.length : Int))), .one (.v (.int .i64 p1023))] ++ (und 5 ++ ([.one (.slice .no (List.map eapi_Input x1351.1.2.1)), .one (.v (.int .i64 (x1351.1.2.1.length : Int))), .one (.v (.int .i64 p1055))] ++ (und 28))))))))) : List PV), ([(7, ⟨0, 4, [[.v (.int .u32 y1227.1.1), .ms 24 0 0 (y1227.1.2.1.length) 35, .ms 100024 0 0 (y1227.1.2.2.1.length) 2, .v (.int .u32 y1227.1.2.2.2)]], false, false⟩), (24, ⟨0, 35, List.map eapi_Input y1227.1.2.1, false, true⟩), (93, ⟨0, 5, List.map eapi_Entry p479, false, true⟩), (100024, ⟨0, 2, List.map eapi_Output y1227.1.2.2.1, false, true⟩), (1000000, ⟨0, 2, [[.slice .no (intsR .i64 y1227.2.1), .v (.int .i64 y1227.2.2)]], false, false⟩)] : Boxes)⟩) hr1348 ?_
     rintro ⟨p1054, p1055⟩ x1361r hr1361
     simp only [Lmill_Pool_s5] at hr1361
     unfold b15_5
     refine nst ?_
     refine go ?_
     by_cases c1362 : p1055 < (x1351.1.2.1.length : Int)
     ·have c1362N := nrm c1362
      replace hr1361 := ifP hr1361
      refine go ?_
      obtain ⟨_, ⟨_, _, _⟩, hr1361⟩ := bI hr1361
      refine go ?_
      by_cases c1364 : p1054 = true
      ·replace hr1361 := ifPb hr1361
       obtain ⟨_, hz1365, hr1361⟩ := bs hr1361
       obtain rfl := Option.some.inj hz1365
       refine go ?_
       exact bk hr1361
      ·replace hr1361 := ifNb hr1361
       obtain ⟨_, hz1366, hr1361⟩ := bs hr1361
       obtain ⟨_, ⟨_, _, _⟩, hz1366⟩ := bA hz1366
       obtain ⟨_, hx1368, hz1366⟩ := bs hz1366
       have ghx1368 := getE_of hx1368
       obtain rfl := Option.some.inj hz1366
       refine go ?_
       exact bk hr1361
     ·have c1362N := nrm c1362
      replace hr1361 := ifN hr1361
      refine go ?_
      obtain ⟨r1369, q1369, rfl⟩ := ms hr1361
      refine go ?_
      rintro rfl
      refine go ?_
      unfold Lmill_Pool_k6 at q1369
      refine go ?_
      exact bk q1369
    ·have c1349N := nrm c1349
     replace hr1348 := ifN hr1348
     refine go ?_
     obtain ⟨r1370, q1370, rfl⟩ := ms hr1348
     refine go ?_
     rintro rfl
     refine go ?_
     unfold Lmill_Pool_k5 at q1370
     refine go ?_
     exact bk q1370
  ·have c1301N := nrm c1301
   replace hr1300 := ifN hr1300
   refine go ?_
   obtain ⟨r1371, q1371, rfl⟩ := ms hr1300
   refine go ?_
   rintro rfl
   refine go ?_
   unfold Lmill_Pool_k2 at q1371
   refine go ?_
   refine ee_J q1371 (.normal) (fun (s : Tlightclientmill_Deck × (List Tapi_Entry)) => match s with | (p960, p961) => (⟨([.ptr 1000000 0 0 0 2] ++ (und 4 ++ ([.one (.ms 93 0 0 (p961.length) 5), .one (.v (.int .i64 p477))] ++ (und 88))) : List PV), ([(93, ⟨0, 5, List.map eapi_Entry p961, false, true⟩), (1000000, ⟨0, 2, [[.slice .no (intsR .i64 p960.1), .v (.int .i64 p960.2)]], false, false⟩)] : Boxes)⟩ : ASt)) (fun (s : Tlightclientmill_Deck × (List Tapi_Entry)) => match s with | (p960, p961) => Lmill_Pool_k3 p477 p960 p961) ?_ ?_
   ·rintro ⟨p960, p961⟩ hk1375
    change Lmill_Pool_k3 p477 p960 p961 = _ at hk1375
    refine go ?_
    refine nst ?_
    unfold Lmill_Pool_k3 at hk1375
    refine ee_regJ rfl (kq := ⟨[0, 5, 6], [93, 1000000], []⟩) rfl (by simp [joinSt, *]; rfl) (by simp [*] <;> rfl) ?_
    exact bk hk1375
   ·intro J1375
    simp only [pq, reduceCtorEq] at J1375
    by_cases c1376 : p878 = true
    ·replace q1371 := ifN q1371
     refine go ?_
     exact jn 1000004 (J1375 (y1227.2, p479) q1371)
    ·replace q1371 := ifP q1371
     refine go ?_
     obtain ⟨y1377, ehy1377, q1371⟩ := bN q1371 G17_eq
     obtain ⟨_, q1371⟩ := bC q1371
     have n1_u1378_0 : (p479.length + 1) * 72 ≤ 140737488355328 := by omega
     have n2_u1378_0 : p479.length + 1 ≤ 9223372036854775807 := by omega
     refine go ?_
     exact jn 1000004 (J1375 (y1377.2, p479 ++ [((y1227.1.1, y1227.1.2.1, y1227.1.2.2.1, y1227.1.2.2.2), y1377.1)]) q1371)
 ·replace hr1225 := ifN hr1225
  refine go ?_
  obtain ⟨r1379, q1379, rfl⟩ := ms hr1225
  refine go ?_
  rintro rfl
  refine go ?_
  unfold Lmill_Pool_k1 at q1379
  refine go ?_
  exact fin q1379
theorem w101 : Walk tt G [] (fun _ => []) Tryd.f101 K101 := by
 refine .of [] true body101 Tryd.ntmps101 fun T hO hT ⟨a0, a1⟩ x hr => ⟨by simp, ?_⟩
 simp only [tabAll] at hT; simp only at hr ⊢; unfold c101
 unfold Lref01_joined at hr
 refine go ?_
 obtain ⟨⟨_, _⟩, hr⟩ := bC hr
 have mf5 : 0 ≤ (IntKind.i64.wrap ((a0.length : Int) + (a1.length : Int))).toNat := by omega
 have mf6 : (IntKind.i64.wrap ((a0.length : Int) + (a1.length : Int))).toNat ≤ 140737488355328 := by omega
 have mf7 : (IntKind.i64.wrap ((a0.length : Int) + (a1.length : Int))).toNat ≤ 9223372036854775807 := by omega
 have mf8 : 0 ≤ IntKind.i64.wrap ((a0.length : Int) + (a1.length : Int)) := by omega
 refine go ?_
 obtain ⟨_, hr⟩ := bC hr
 have n1_u9_0 : a0.length ≤ 140737488355328 := by omega
 have n2_u9_0 : a0.length ≤ 9223372036854775807 := by omega
 obtain ⟨_, hr⟩ := bC hr
 have n1_u10_0 : a0.length + a1.length ≤ 140737488355328 := by omega
 have n2_u10_0 : a0.length + a1.length ≤ 9223372036854775807 := by omega
 refine go ?_
 exact fin hr
theorem w102 : Walk tt G [] (fun _ => []) Tryd.f102 K102 := by
 refine .of [(3, ⟨[0, 5, 10, 11], [8], []⟩)] true body102 Tryd.ntmps102 fun T hO hT ⟨a0, a1⟩ x hr => ⟨by simp, ?_⟩
 simp only [tabAll] at hT; simp only at hr ⊢; unfold c102
 unfold Lref01_little at hr
 refine go ?_
 obtain ⟨⟨_, _⟩, hr⟩ := bC hr
 have mf15 : (a1).toNat ≤ 140737488355328 := by omega
 have mf16 : (a1).toNat ≤ 9223372036854775807 := by omega
 have mf17 : 0 ≤ a1 := by omega
 refine go ?_
 refine lp 3 (fun (⟨p8, p9⟩ : Int × (List Int)) => ⟨([.one (.v (.int .u64 a0))] ++ (und 4 ++ ([.one (.ms 8 0 0 (p9.length) 1)] ++ (und 4 ++ ([.one (.v (.int .i64 ((List.replicate ((a1).toNat) 0).length : Int))), .one (.v (.int .i64 p8))] ++ (und 12))))) : List PV), ([(8, ⟨0, 1, intsR .u8 p9, false, true⟩)] : Boxes)⟩) hr ?_
 rintro ⟨p8, p9⟩ x23r hr23
 simp only [Lref01_little_s1] at hr23
 unfold b102_1
 refine nst ?_
 refine go ?_
 by_cases c24 : p8 < ((List.replicate ((a1).toNat) 0).length : Int)
 ·have c24N := nrm c24
  replace hr23 := ifP hr23
  refine go ?_
  obtain ⟨_, hr23⟩ := bC hr23
  obtain ⟨_, ⟨_, _, _⟩, hr23⟩ := bA hr23
  refine go ?_
  exact bk hr23
 ·have c24N := nrm c24
  replace hr23 := ifN hr23
  refine go ?_
  obtain ⟨r27, q27, rfl⟩ := ms hr23
  refine go ?_
  rintro rfl
  refine go ?_
  unfold Lref01_little_k1 at q27
  refine go ?_
  exact fin q27
theorem w89 : Walk tt G [(101, K101.G), (102, K102.G)] (fun _ => []) Tryd.f89 K89 := by
 refine .of [] true body89 Tryd.ntmps89 fun T hO hT ⟨a0, a1⟩ x hr => ⟨by simp, ?_⟩
 simp only [tabAll] at hT; simp only at hr ⊢; unfold c89
 unfold Lref01_AppendU32 at hr
 refine go ?_
 obtain ⟨_, ehy3, hr⟩ := bN hr G102_eq
 obtain ⟨_, ehy4, hr⟩ := bN hr G101_eq
 refine go ?_
 exact fin hr
end Go.Proofs.YtconfbgcjkjnkaaDoor
