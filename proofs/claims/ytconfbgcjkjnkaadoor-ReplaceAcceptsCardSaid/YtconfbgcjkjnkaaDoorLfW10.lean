import Derived.Test.YtconfbgcjkjnkaaDoorLfK
import Derived.Test.YtconfbgcjkjnkaaDoorCode
namespace Go.Proofs.YtconfbgcjkjnkaaDoor
open Go.RowKit
open Go.Av
open Go.Lc
set_option maxRecDepth 100000
set_option linter.unusedSimpArgs false
set_option linter.unusedVariables false
set_option maxHeartbeats 4000000
def kp51 : Keep := fun i => if i = 7 then ⟨[1, 3, 24, 25, 26], [1], []⟩ else if i = 16 then ⟨[1, 42, 43], [1], []⟩ else if i = 19 then ⟨[1, 6, 7, 42, 43], [1], []⟩ else if i = 25 then ⟨[1, 66, 67, 68], [1], []⟩ else ⟨[], [], []⟩
theorem w51 {T : Tab} (hT52 : T 52 = some G52) (hT63 : T 63 = some G63) (hT83 : T 83 = some G83) (a0 : Tapi_Tx) (x : Int) (hr : Lref09_Check a0 = some x) : ∃ kp fl n, execFn tt T G kp fl n Tryd.f51 (E51 a0) = some (R51 a0 x) := by
 simp only [E51, R51]
 refine fnE (kp := kp51) (w := false) body51 ?_
 unfold c51
 rw [Tryd.ntmps51]
 unfold Lref09_Check at hr
 refine ee_seq_reg rfl (by simp []; rfl) ?_
 refine ee_assoc ?_
 obtain ⟨y63, hy63, hr⟩ := bs hr
 have ehy63 := G63_eq hy63
 simp only [E63, R63, nf, nfs] at ehy63
 refine ee_seq_reg rfl (by simp [hT63, ehy63]; rfl) ?_
 by_cases c64 : y63 = true
 ·skip
  rw [if_neg (not_not_intro c64)] at hr
  refine ee_seq_condF (by simp [bV, c64]) ?_
  refine ee_seq_skip ?_
  refine ee_assoc ?_
  by_cases c65 : (a0.2.1.length : Int) = 0
  ·skip
   have c65N := c65
   try simp at c65N
   refine ee_seq_reg rfl (by simp [c64, eq_true c65, eq_true c65N]; rfl) ?_
   rw [if_pos] at hr
   rotate_left
   ·simp [c64, eq_true c65, eq_true c65N]
   refine ee_seq_condT (by simp [bV, c64, eq_true c65, eq_true c65N]) ?_
   refine ee_assoc ?_
   refine ee_seq_reg rfl (by simp [c64, eq_true c65, eq_true c65N]; rfl) ?_
   refine ee_seq_ret ?_
   obtain rfl := Option.some.inj hr
   simp [FinQ, c64, eq_true c65, eq_true c65N]
  ·skip
   have c65N := c65
   try simp at c65N
   first | have c65M : (_ = _) = True := eq_true c65N | have c65M := c65N
   refine ee_seq_reg rfl (by simp [c64, c65, c65M]; rfl) ?_
   by_cases c66 : (a0.2.2.1.length : Int) = 0
   ·skip
    have c66N := c66
    try simp at c66N
    rw [if_pos] at hr
    rotate_left
    ·simp [c64, c65, c65M, eq_true c66, eq_true c66N]
    refine ee_seq_condT (by simp [bV, c64, c65, c65M, eq_true c66, eq_true c66N]) ?_
    refine ee_assoc ?_
    refine ee_seq_reg rfl (by simp [c64, c65, c65M, eq_true c66, eq_true c66N]; rfl) ?_
    refine ee_seq_ret ?_
    obtain rfl := Option.some.inj hr
    simp [FinQ, c64, c65, c65M, eq_true c66, eq_true c66N]
   ·skip
    have c66N := c66
    try simp at c66N
    first | have c66M : (_ = _) = True := eq_true c66N | have c66M := c66N
    rw [if_neg] at hr
    rotate_left
    ·simp [c64, c65, c65M, c66, c66M]
    refine ee_seq_condF (by simp [bV, c64, c65, c65M, c66, c66M]) ?_
    refine ee_seq_skip ?_
    refine ee_seq_reg rfl (by simp [c64, c65, c65M, c66, c66M]; rfl) ?_
    refine ee_assoc ?_
    refine ee_seq_reg rfl (by simp [c64, c65, c65M, c66, c66M]; rfl) ?_
    refine ee_seq_block ?_
    refine ee_loop (kq := ⟨[1, 3, 24, 25, 26], [1], []⟩) (H := fun (s : Int × Int) => match s with | (p6, p7) => (⟨(und 1 ++ ([.ptr 1 0 0 0 4] ++ (und 1 ++ ([.one (.v (.int .i64 p6))] ++ (und 20 ++ ([.one (.slice .no (List.map eapi_Output a0.2.2.1)), .one (.v (.int .i64 (a0.2.2.1.length : Int))), .one (.v (.int .i64 p7))] ++ (und 54)))))) : List PV), ([(1, ⟨0, 4, [[.v (.int .u32 a0.1), .slice .no (List.map eapi_Input a0.2.1), .slice .no (List.map eapi_Output a0.2.2.1), .v (.int .u32 a0.2.2.2)]], false, false⟩)] : Boxes)⟩ : ASt)) (by kernel_rfl) hr (by simp [und, List.replicate, c64, c65, c65M, c66, c66M]) ?_
    rintro ⟨p6, p7⟩ x67r hr67
    simp only [Lref09_Check_s1] at hr67
    unfold b51_1
    simp only [und, List.replicate, List.cons_append, List.nil_append]
    refine ee_seq_reg rfl (by simp [c64, c65, c65M, c66, c66M]; rfl) ?_
    by_cases c68 : p7 < (a0.2.2.1.length : Int)
    ·skip
     have c68N := c68
     try simp at c68N
     first | have c68M : (_ = _) = True := eq_true c68N | have c68M := c68N
     rw [if_pos] at hr67
     rotate_left
     ·simp [c64, c65, c65M, c66, c66M, c68, c68M]
     refine ee_seq_condT (by simp [bV, c64, c65, c65M, c66, c66M, c68, c68M]) ?_
     refine ee_seq_skip ?_
     refine ee_seq_block ?_
     obtain ⟨x69, hx69, hr67⟩ := bs hr67
     obtain ⟨hx69a, hx69b⟩ := idx_some hx69
     have hx69c := getE_of hx69b
     refine ee_seq_reg rfl (by simp [hx69a, hx69b, hx69c, c64, c65, c65M, c66, c66M, c68, c68M]; rfl) ?_
     refine ee_assoc ?_
     refine ee_seq_reg rfl (by simp [c64, c65, c65M, c66, c66M, c68, c68M]; rfl) ?_
     by_cases c70 : 2100000000000000 < x69.1
     ·skip
      rw [if_pos c70] at hr67
      refine ee_seq_condT (by simp [bV, c64, c65, c65M, c66, c66M, c68, c68M, c70]) ?_
      refine ee_assoc ?_
      refine ee_seq_reg rfl (by simp [c64, c65, c65M, c66, c66M, c68, c68M, c70]; rfl) ?_
      refine ee_seq_ret ?_
      obtain rfl := Option.some.inj hr67
      simp only [pq, reduceCtorEq]
      rintro rfl
      simp [FinQ, c64, c65, c65M, c66, c66M, c68, c68M, c70]
     ·skip
      rw [if_neg c70] at hr67
      refine ee_seq_condF (by simp [bV, c64, c65, c65M, c66, c66M, c68, c68M, c70]) ?_
      refine ee_seq_skip ?_
      refine ee_reg rfl (by simp [c64, c65, c65M, c66, c66M, c68, c68M, c70]; rfl) ?_
      simp only [pq, reduceCtorEq]
      refine ee_reg rfl (by simp [c64, c65, c65M, c66, c66M, c68, c68M, c70]; rfl) ?_
      obtain rfl := Option.some.inj hr67
      simp only [pq, reduceCtorEq]
      simp [und, List.replicate, Nat.add_assoc, c64, c65, c65M, c66, c66M, c68, c68M, c70]
    ·skip
     have c68N := c68
     try simp at c68N
     first | have c68M : (_ = _) = True := eq_true c68N | have c68M := c68N
     rw [if_neg] at hr67
     rotate_left
     ·simp [c64, c65, c65M, c66, c66M, c68, c68M]
     refine ee_seq_condF (by simp [bV, c64, c65, c65M, c66, c66M, c68, c68M]) ?_
     refine ee_seq_exit ?_
     obtain ⟨r71, q71, rfl⟩ := ms hr67
     simp only [pq, reduceCtorEq]
     rintro rfl
     try simp only [pq, reduceCtorEq]
     unfold Lref09_Check_k1 at q71
     refine ee_assoc ?_
     refine ee_seq_reg rfl (by simp [c64, c65, c65M, c66, c66M, c68, c68M]; rfl) ?_
     by_cases c72 : 2100000000000000 < p6
     ·skip
      rw [if_pos c72] at q71
      refine ee_seq_condT (by simp [bV, c64, c65, c65M, c66, c66M, c68, c68M, c72]) ?_
      refine ee_assoc ?_
      refine ee_seq_reg rfl (by simp [c64, c65, c65M, c66, c66M, c68, c68M, c72]; rfl) ?_
      refine ee_seq_ret ?_
      obtain rfl := Option.some.inj q71
      simp [FinQ, c64, c65, c65M, c66, c66M, c68, c68M, c72]
     ·skip
      rw [if_neg c72] at q71
      refine ee_seq_condF (by simp [bV, c64, c65, c65M, c66, c66M, c68, c68M, c72]) ?_
      refine ee_seq_skip ?_
      refine ee_assoc ?_
      refine ee_seq_reg rfl (by simp [c64, c65, c65M, c66, c66M, c68, c68M, c72]; rfl) ?_
      refine ee_seq_block ?_
      refine ee_loop (kq := ⟨[1, 42, 43], [1], []⟩) (H := fun (s : Int) => match s with | p25 => (⟨(und 1 ++ ([.ptr 1 0 0 0 4] ++ (und 40 ++ ([.one (.v (.int .i64 (a0.2.1.length : Int))), .one (.v (.int .i64 p25))] ++ (und 37)))) : List PV), ([(1, ⟨0, 4, [[.v (.int .u32 a0.1), .slice .no (List.map eapi_Input a0.2.1), .slice .no (List.map eapi_Output a0.2.2.1), .v (.int .u32 a0.2.2.2)]], false, false⟩)] : Boxes)⟩ : ASt)) (by kernel_rfl) q71 (by simp [und, List.replicate, c64, c65, c65M, c66, c66M, c68, c68M, c72]) ?_
      rintro p25 x73r hr73
      simp only [Lref09_Check_s2] at hr73
      unfold b51_2
      simp only [und, List.replicate, List.cons_append, List.nil_append]
      refine ee_seq_reg rfl (by simp [c64, c65, c65M, c66, c66M, c68, c68M, c72]; rfl) ?_
      by_cases c74 : p25 < (a0.2.1.length : Int)
      ·skip
       have c74N := c74
       try simp at c74N
       first | have c74M : (_ = _) = True := eq_true c74N | have c74M := c74N
       rw [if_pos] at hr73
       rotate_left
       ·simp [c64, c65, c65M, c66, c66M, c68, c68M, c72, c74, c74M]
       refine ee_seq_condT (by simp [bV, c64, c65, c65M, c66, c66M, c68, c68M, c72, c74, c74M]) ?_
       refine ee_seq_skip ?_
       refine ee_seq_block ?_
       refine ee_seq_reg rfl (by simp [c64, c65, c65M, c66, c66M, c68, c68M, c72, c74, c74M]; rfl) ?_
       refine ee_seq_reg rfl (by simp [c64, c65, c65M, c66, c66M, c68, c68M, c72, c74, c74M]; rfl) ?_
       refine ee_block ?_
       refine ee_loop (kq := ⟨[1, 6, 7, 42, 43], [1], []⟩) (H := fun (s : Int) => match s with | p57 => (⟨(und 1 ++ ([.ptr 1 0 0 0 4] ++ (und 4 ++ ([.one (.v (.int .i64 p25)), .one (.v (.int .i64 p57))] ++ (und 34 ++ ([.one (.v (.int .i64 (a0.2.1.length : Int))), .one (.v (.int .i64 p25))] ++ (und 37)))))) : List PV), ([(1, ⟨0, 4, [[.v (.int .u32 a0.1), .slice .no (List.map eapi_Input a0.2.1), .slice .no (List.map eapi_Output a0.2.2.1), .v (.int .u32 a0.2.2.2)]], false, false⟩)] : Boxes)⟩ : ASt)) (by kernel_rfl) hr73 (by simp [und, List.replicate, c64, c65, c65M, c66, c66M, c68, c68M, c72, c74, c74M]) ?_
       rintro p57 x75r hr75
       simp only [Lref09_Check_s4] at hr75
       unfold b51_3
       simp only [und, List.replicate, List.cons_append, List.nil_append]
       refine ee_assoc ?_
       refine ee_seq_reg rfl (by simp [c64, c65, c65M, c66, c66M, c68, c68M, c72, c74, c74M]; rfl) ?_
       by_cases c76 : p57 < p25
       ·skip
        rw [if_pos] at hr75
        rotate_left
        ·simp [c64, c65, c65M, c66, c66M, c68, c68M, c72, c74, c74M, c76]
        refine ee_seq_condT (by simp [bV, c64, c65, c65M, c66, c66M, c68, c68M, c72, c74, c74M, c76]) ?_
        refine ee_seq_skip ?_
        refine ee_seq_block ?_
        obtain ⟨x77, hx77, hr75⟩ := bs hr75
        obtain ⟨hx77a, hx77b⟩ := idx_some hx77
        have hx77c := getE_of hx77b
        obtain ⟨x78, hx78, hr75⟩ := bs hr75
        obtain ⟨hx78a, hx78b⟩ := idx_some hx78
        have hx78c := getE_of hx78b
        refine ee_seq_draw rfl (by simp [hx77a, hx77b, hx77c, hx78a, hx78b, hx78c, c64, c65, c65M, c66, c66M, c68, c68M, c72, c74, c74M, c76]; first | exact ⟨rfl, rfl⟩ | rfl) (by kernel_rfl) ?_
        by_cases c79 : x77.1.1 = x78.1.1
        ·skip
         by_cases c80 : x77.1.2 = x78.1.2
         ·skip
          rw [if_pos] at hr75
          rotate_left
          ·simp [c64, c65, c65M, c66, c66M, c68, c68M, c72, c74, c74M, c76, eq_true c79, eq_true c80]
          refine ee_condT (by simp [bV, c64, c65, c65M, c66, c66M, c68, c68M, c72, c74, c74M, c76, eq_true c79, eq_true c80]) ?_
          refine ee_seq_reg rfl (by simp [c64, c65, c65M, c66, c66M, c68, c68M, c72, c74, c74M, c76, eq_true c79, eq_true c80]; rfl) ?_
          refine ee_ret ?_
          obtain rfl := Option.some.inj hr75
          simp only [pq, reduceCtorEq]
          rintro rfl
          simp only [pq, reduceCtorEq]
          rintro rfl
          simp [FinQ, c64, c65, c65M, c66, c66M, c68, c68M, c72, c74, c74M, c76, eq_true c79, eq_true c80]
         ·skip
          rw [if_neg] at hr75
          rotate_left
          ·simp [c64, c65, c65M, c66, c66M, c68, c68M, c72, c74, c74M, c76, eq_true c79, c80]
          refine ee_condF (by simp [bV, c64, c65, c65M, c66, c66M, c68, c68M, c72, c74, c74M, c76, eq_true c79, c80]) ?_
          refine ee_skip ?_
          simp only [pq, reduceCtorEq]
          refine ee_reg rfl (by simp [c64, c65, c65M, c66, c66M, c68, c68M, c72, c74, c74M, c76, eq_true c79, c80]; rfl) ?_
          obtain rfl := Option.some.inj hr75
          simp only [pq, reduceCtorEq]
          simp [und, List.replicate, Nat.add_assoc, c64, c65, c65M, c66, c66M, c68, c68M, c72, c74, c74M, c76, eq_true c79, c80]
        ·skip
         rw [if_neg] at hr75
         rotate_left
         ·simp [c64, c65, c65M, c66, c66M, c68, c68M, c72, c74, c74M, c76, c79]
         refine ee_condF (by simp [bV, c64, c65, c65M, c66, c66M, c68, c68M, c72, c74, c74M, c76, c79]) ?_
         refine ee_skip ?_
         simp only [pq, reduceCtorEq]
         refine ee_reg rfl (by simp [c64, c65, c65M, c66, c66M, c68, c68M, c72, c74, c74M, c76, c79]; rfl) ?_
         obtain rfl := Option.some.inj hr75
         simp only [pq, reduceCtorEq]
         simp [und, List.replicate, Nat.add_assoc, c64, c65, c65M, c66, c66M, c68, c68M, c72, c74, c74M, c76, c79]
       ·skip
        rw [if_neg] at hr75
        rotate_left
        ·simp [c64, c65, c65M, c66, c66M, c68, c68M, c72, c74, c74M, c76]
        refine ee_seq_condF (by simp [bV, c64, c65, c65M, c66, c66M, c68, c68M, c72, c74, c74M, c76]) ?_
        refine ee_seq_exit ?_
        obtain ⟨r81, q81, rfl⟩ := ms hr75
        simp only [pq, reduceCtorEq]
        rintro rfl
        try simp only [pq, reduceCtorEq]
        unfold Lref09_Check_k4 at q81
        refine ee_reg rfl (by simp [c64, c65, c65M, c66, c66M, c68, c68M, c72, c74, c74M, c76]; rfl) ?_
        obtain rfl := Option.some.inj q81
        simp only [pq, reduceCtorEq]
        simp [und, List.replicate, Nat.add_assoc, c64, c65, c65M, c66, c66M, c68, c68M, c72, c74, c74M, c76]
      ·skip
       have c74N := c74
       try simp at c74N
       first | have c74M : (_ = _) = True := eq_true c74N | have c74M := c74N
       rw [if_neg] at hr73
       rotate_left
       ·simp [c64, c65, c65M, c66, c66M, c68, c68M, c72, c74, c74M]
       refine ee_seq_condF (by simp [bV, c64, c65, c65M, c66, c66M, c68, c68M, c72, c74, c74M]) ?_
       refine ee_seq_exit ?_
       obtain ⟨r82, q82, rfl⟩ := ms hr73
       simp only [pq, reduceCtorEq]
       rintro rfl
       try simp only [pq, reduceCtorEq]
       unfold Lref09_Check_k2 at q82
       refine ee_assoc ?_
       refine ee_seq_reg rfl (by simp [c64, c65, c65M, c66, c66M, c68, c68M, c72, c74, c74M]; rfl) ?_
       refine ee_seq_block ?_
       refine ee_loop (kq := ⟨[1, 66, 67, 68], [1], []⟩) (H := fun (s : Int) => match s with | p43 => (⟨(und 1 ++ ([.ptr 1 0 0 0 4] ++ (und 64 ++ ([.one (.slice .no (List.map eapi_Input a0.2.1)), .one (.v (.int .i64 (a0.2.1.length : Int))), .one (.v (.int .i64 p43))] ++ (und 12)))) : List PV), ([(1, ⟨0, 4, [[.v (.int .u32 a0.1), .slice .no (List.map eapi_Input a0.2.1), .slice .no (List.map eapi_Output a0.2.2.1), .v (.int .u32 a0.2.2.2)]], false, false⟩)] : Boxes)⟩ : ASt)) (by kernel_rfl) q82 (by simp [und, List.replicate, c64, c65, c65M, c66, c66M, c68, c68M, c72, c74, c74M]) ?_
       rintro p43 x83r hr83
       simp only [Lref09_Check_s3] at hr83
       unfold b51_4
       simp only [und, List.replicate, List.cons_append, List.nil_append]
       refine ee_seq_reg rfl (by simp [c64, c65, c65M, c66, c66M, c68, c68M, c72, c74, c74M]; rfl) ?_
       by_cases c84 : p43 < (a0.2.1.length : Int)
       ·skip
        have c84N := c84
        try simp at c84N
        first | have c84M : (_ = _) = True := eq_true c84N | have c84M := c84N
        rw [if_pos] at hr83
        rotate_left
        ·simp [c64, c65, c65M, c66, c66M, c68, c68M, c72, c74, c74M, c84, c84M]
        refine ee_seq_condT (by simp [bV, c64, c65, c65M, c66, c66M, c68, c68M, c72, c74, c74M, c84, c84M]) ?_
        refine ee_seq_skip ?_
        refine ee_seq_block ?_
        obtain ⟨x85, hx85, hr83⟩ := bs hr83
        obtain ⟨hx85a, hx85b⟩ := idx_some hx85
        have hx85c := getE_of hx85b
        refine ee_seq_reg rfl (by simp [hx85a, hx85b, hx85c, c64, c65, c65M, c66, c66M, c68, c68M, c72, c74, c74M, c84, c84M]; rfl) ?_
        obtain ⟨y86, hy86, hr83⟩ := bs hr83
        have ehy86 := G83_eq hy86
        simp only [E83, R83, nf, nfs] at ehy86
        by_cases c87 : y86 = true
        ·skip
         rw [if_pos] at hr83
         rotate_left
         ·simp [c64, c65, c65M, c66, c66M, c68, c68M, c72, c74, c74M, c84, c84M, c87]
         obtain ⟨z88, hz88, hr83⟩ := bs hr83
         obtain ⟨y89, hy89, hz88⟩ := bs hz88
         have ehy89 := G52_eq hy89
         simp only [E52, R52, nf, nfs] at ehy89
         obtain rfl := Option.some.inj hz88
         refine ee_seq_reg rfl (by simp [hT83, ehy86, hT52, ehy89, c64, c65, c65M, c66, c66M, c68, c68M, c72, c74, c74M, c84, c84M, c87]; rfl) ?_
         by_cases c90 : y89 = true
         ·skip
          rw [if_neg] at hr83
          rotate_left
          ·simp [c64, c65, c65M, c66, c66M, c68, c68M, c72, c74, c74M, c84, c84M, c87, c90]
          refine ee_condF (by simp [bV, c64, c65, c65M, c66, c66M, c68, c68M, c72, c74, c74M, c84, c84M, c87, c90]) ?_
          refine ee_skip ?_
          simp only [pq, reduceCtorEq]
          refine ee_reg rfl (by simp [c64, c65, c65M, c66, c66M, c68, c68M, c72, c74, c74M, c84, c84M, c87, c90]; rfl) ?_
          obtain rfl := Option.some.inj hr83
          simp only [pq, reduceCtorEq]
          simp [und, List.replicate, Nat.add_assoc, c64, c65, c65M, c66, c66M, c68, c68M, c72, c74, c74M, c84, c84M, c87, c90]
         ·skip
          rw [if_pos] at hr83
          rotate_left
          ·simp [c64, c65, c65M, c66, c66M, c68, c68M, c72, c74, c74M, c84, c84M, c87, c90]
          refine ee_condT (by simp [bV, c64, c65, c65M, c66, c66M, c68, c68M, c72, c74, c74M, c84, c84M, c87, c90]) ?_
          refine ee_seq_reg rfl (by simp [c64, c65, c65M, c66, c66M, c68, c68M, c72, c74, c74M, c84, c84M, c87, c90]; rfl) ?_
          refine ee_ret ?_
          obtain rfl := Option.some.inj hr83
          simp only [pq, reduceCtorEq]
          rintro rfl
          simp [FinQ, c64, c65, c65M, c66, c66M, c68, c68M, c72, c74, c74M, c84, c84M, c87, c90]
        ·skip
         rw [if_neg] at hr83
         rotate_left
         ·simp [c64, c65, c65M, c66, c66M, c68, c68M, c72, c74, c74M, c84, c84M, c87]
         obtain ⟨z91, hz91, hr83⟩ := bs hr83
         obtain rfl := Option.some.inj hz91
         refine ee_seq_reg rfl (by simp [hT83, ehy86, c64, c65, c65M, c66, c66M, c68, c68M, c72, c74, c74M, c84, c84M, c87]; rfl) ?_
         rw [if_neg] at hr83
         rotate_left
         ·simp [c64, c65, c65M, c66, c66M, c68, c68M, c72, c74, c74M, c84, c84M, c87]
         refine ee_condF (by simp [bV, c64, c65, c65M, c66, c66M, c68, c68M, c72, c74, c74M, c84, c84M, c87]) ?_
         refine ee_skip ?_
         simp only [pq, reduceCtorEq]
         refine ee_reg rfl (by simp [c64, c65, c65M, c66, c66M, c68, c68M, c72, c74, c74M, c84, c84M, c87]; rfl) ?_
         obtain rfl := Option.some.inj hr83
         simp only [pq, reduceCtorEq]
         simp [und, List.replicate, Nat.add_assoc, c64, c65, c65M, c66, c66M, c68, c68M, c72, c74, c74M, c84, c84M, c87]
       ·skip
        have c84N := c84
        try simp at c84N
        first | have c84M : (_ = _) = True := eq_true c84N | have c84M := c84N
        rw [if_neg] at hr83
        rotate_left
        ·simp [c64, c65, c65M, c66, c66M, c68, c68M, c72, c74, c74M, c84, c84M]
        refine ee_seq_condF (by simp [bV, c64, c65, c65M, c66, c66M, c68, c68M, c72, c74, c74M, c84, c84M]) ?_
        refine ee_seq_exit ?_
        obtain ⟨r92, q92, rfl⟩ := ms hr83
        simp only [pq, reduceCtorEq]
        rintro rfl
        try simp only [pq, reduceCtorEq]
        unfold Lref09_Check_k3 at q92
        refine ee_seq_reg rfl (by simp [c64, c65, c65M, c66, c66M, c68, c68M, c72, c74, c74M, c84, c84M]; rfl) ?_
        refine ee_ret ?_
        obtain rfl := Option.some.inj q92
        simp [FinQ, c64, c65, c65M, c66, c66M, c68, c68M, c72, c74, c74M, c84, c84M]
 ·skip
  rw [if_pos c64] at hr
  refine ee_seq_condT (by simp [bV, c64]) ?_
  refine ee_assoc ?_
  refine ee_seq_reg rfl (by simp [c64]; rfl) ?_
  refine ee_seq_ret ?_
  obtain rfl := Option.some.inj hr
  simp [FinQ, c64]
def kp53 : Keep := fun i => ⟨[], [], []⟩
theorem w53 {T : Tab} (a0 : Int) (x : Bool) (hr : Lref36_money a0 = some x) : ∃ kp fl n, execFn tt T G kp fl n Tryd.f53 (E53 a0) = some (R53 a0 x) := by
 simp only [E53, R53]
 refine fnE (kp := kp53) (w := false) body53 ?_
 unfold c53
 rw [Tryd.ntmps53]
 unfold Lref36_money at hr
 refine ee_seq_reg rfl (by simp []; rfl) ?_
 by_cases c1 : 0 ≤ a0
 ·skip
  refine ee_seq_reg rfl (by simp [c1]; rfl) ?_
  refine ee_ret ?_
  obtain rfl := Option.some.inj hr
  simp [FinQ, c1]
 ·skip
  refine ee_seq_reg rfl (by simp [c1]; rfl) ?_
  refine ee_ret ?_
  obtain rfl := Option.some.inj hr
  simp [FinQ, c1]
def kp54 : Keep := fun i => if i = 3 then ⟨[2, 5, 6], [2, 5], []⟩ else ⟨[], [], []⟩
theorem w54 {T : Tab} (hT37 : T 37 = some G37) (a0 : Tapi_Tx) (a1 : Tapi_Tx) (x : Bool) (hr : Lref36_spends a0 a1 = some x) : ∃ kp fl n, execFn tt T G kp fl n Tryd.f54 (E54 (a0, a1)) = some (R54 (a0, a1) x) := by
 simp only [E54, R54]
 refine fnE (kp := kp54) (w := false) body54 ?_
 unfold c54
 rw [Tryd.ntmps54]
 unfold Lref36_spends at hr
 refine ee_seq_reg rfl (by simp []; rfl) ?_
 obtain ⟨y8, hy8, hr⟩ := bs hr
 have ehy8 := G37_eq hy8
 simp only [E37, R37, nf, nfs] at ehy8
 refine ee_seq_reg rfl (by simp [hT37, ehy8]; rfl) ?_
 refine ee_assoc ?_
 refine ee_seq_reg rfl (by simp []; rfl) ?_
 refine ee_seq_block ?_
 refine ee_loop (kq := ⟨[2, 5, 6], [2, 5], []⟩) (H := fun (s : Int) => match s with | p5 => (⟨(und 2 ++ ([.ptr 2 0 0 0 4] ++ (und 2 ++ ([.ptr 5 0 0 0 32, .one (.v (.int .i64 p5))] ++ (und 18)))) : List PV), ([(2, ⟨0, 4, [[.v (.int .u32 a0.1), .slice .no (List.map eapi_Input a0.2.1), .slice .no (List.map eapi_Output a0.2.2.1), .v (.int .u32 a0.2.2.2)]], false, false⟩), (5, ⟨0, 32, [arC .u8 y8], false, false⟩)] : Boxes)⟩ : ASt)) (by kernel_rfl) hr (by simp [und, List.replicate, ]) ?_
 rintro p5 x9r hr9
 simp only [Lref36_spends_s1] at hr9
 unfold b54_1
 simp only [und, List.replicate, List.cons_append, List.nil_append]
 refine ee_assoc ?_
 refine ee_seq_reg rfl (by simp []; rfl) ?_
 by_cases c10 : p5 < (a0.2.1.length : Int)
 ·skip
  have c10N := c10
  try simp at c10N
  first | have c10M : (_ = _) = True := eq_true c10N | have c10M := c10N
  rw [if_pos] at hr9
  rotate_left
  ·simp [c10, c10M]
  refine ee_seq_condT (by simp [bV, c10, c10M]) ?_
  refine ee_seq_skip ?_
  refine ee_seq_block ?_
  obtain ⟨x11, hx11, hr9⟩ := bs hr9
  obtain ⟨hx11a, hx11b⟩ := idx_some hx11
  have hx11c := getE_of hx11b
  refine ee_seq_draw rfl (by simp [hx11a, hx11b, hx11c, c10, c10M]; first | exact ⟨rfl, rfl⟩ | rfl) (by kernel_rfl) ?_
  by_cases c12 : x11.1.1 = y8
  ·skip
   rw [if_pos c12] at hr9
   refine ee_condT (by simp [bV, c10, c10M, eq_true c12]) ?_
   refine ee_seq_reg rfl (by simp [c10, c10M, eq_true c12]; rfl) ?_
   refine ee_ret ?_
   obtain rfl := Option.some.inj hr9
   simp only [pq, reduceCtorEq]
   rintro rfl
   simp [FinQ, c10, c10M, eq_true c12]
  ·skip
   rw [if_neg c12] at hr9
   refine ee_condF (by simp [bV, c10, c10M, c12]) ?_
   refine ee_skip ?_
   simp only [pq, reduceCtorEq]
   refine ee_reg rfl (by simp [c10, c10M, c12]; rfl) ?_
   obtain rfl := Option.some.inj hr9
   simp only [pq, reduceCtorEq]
   simp [und, List.replicate, Nat.add_assoc, c10, c10M, c12]
 ·skip
  have c10N := c10
  try simp at c10N
  first | have c10M : (_ = _) = True := eq_true c10N | have c10M := c10N
  rw [if_neg] at hr9
  rotate_left
  ·simp [c10, c10M]
  refine ee_seq_condF (by simp [bV, c10, c10M]) ?_
  refine ee_seq_exit ?_
  obtain ⟨r13, q13, rfl⟩ := ms hr9
  simp only [pq, reduceCtorEq]
  rintro rfl
  try simp only [pq, reduceCtorEq]
  unfold Lref36_spends_k1 at q13
  refine ee_seq_reg rfl (by simp [c10, c10M]; rfl) ?_
  refine ee_ret ?_
  obtain rfl := Option.some.inj q13
  simp [FinQ, c10, c10M]
def kp71 : Keep := fun i => ⟨[], [], []⟩
theorem w71 {T : Tab} (a0 : Int) (a1 : Int) (a2 : Int) (x : Bool) (hr : Lref34_in a0 a1 a2 = some x) : ∃ kp fl n, execFn tt T G kp fl n Tryd.f71 (E71 (a0, a1, a2)) = some (R71 (a0, a1, a2) x) := by
 simp only [E71, R71]
 refine fnE (kp := kp71) (w := false) body71 ?_
 unfold c71
 rw [Tryd.ntmps71]
 unfold Lref34_in at hr
 refine ee_seq_reg rfl (by simp []; rfl) ?_
 by_cases c1 : a1 ≤ a0
 ·skip
  refine ee_seq_reg rfl (by simp [c1]; rfl) ?_
  refine ee_ret ?_
  obtain rfl := Option.some.inj hr
  simp [FinQ, c1]
 ·skip
  refine ee_seq_reg rfl (by simp [c1]; rfl) ?_
  refine ee_ret ?_
  obtain rfl := Option.some.inj hr
  simp [FinQ, c1]
def kp55 : Keep := fun i => ⟨[], [], []⟩
theorem w55 {T : Tab} (hT71 : T 71 = some G71) (a0 : Int) (a1 : Int) (x : Int) (hr : Lref34_Fee a0 a1 = some x) : ∃ kp fl n, execFn tt T G kp fl n Tryd.f55 (E55 (a0, a1)) = some (R55 (a0, a1) x) := by
 simp only [E55, R55]
 refine fnE (kp := kp55) (w := false) body55 ?_
 unfold c55
 rw [Tryd.ntmps55]
 unfold Lref34_Fee at hr
 refine ee_seq_reg rfl (by simp []; rfl) ?_
 refine ee_assoc ?_
 obtain ⟨y4, hy4, hr⟩ := bs hr
 have ehy4 := G71_eq hy4
 simp only [E71, R71, nf, nfs] at ehy4
 by_cases c5 : y4 = true
 ·skip
  rw [if_neg] at hr
  rotate_left
  ·simp [c5]
  obtain ⟨z6, hz6, hr⟩ := bs hr
  obtain ⟨y7, hy7, hz6⟩ := bs hz6
  have ehy7 := G71_eq hy7
  simp only [E71, R71, nf, nfs] at ehy7
  obtain rfl := Option.some.inj hz6
  refine ee_seq_reg rfl (by simp [hT71, ehy4, ehy7, c5]; rfl) ?_
  by_cases c8 : y7 = true
  ·skip
   rw [if_neg] at hr
   rotate_left
   ·simp [c5, c8]
   refine ee_seq_condF (by simp [bV, c5, c8]) ?_
   refine ee_seq_skip ?_
   refine ee_seq_reg rfl (by simp [c5, c8]; rfl) ?_
   refine ee_ret ?_
   obtain rfl := Option.some.inj hr
   simp [FinQ, c5, c8]
  ·skip
   rw [if_pos] at hr
   rotate_left
   ·simp [c5, c8]
   refine ee_seq_condT (by simp [bV, c5, c8]) ?_
   refine ee_assoc ?_
   refine ee_seq_reg rfl (by simp [c5, c8]; rfl) ?_
   refine ee_seq_ret ?_
   obtain rfl := Option.some.inj hr
   simp [FinQ, c5, c8]
 ·skip
  rw [if_pos] at hr
  rotate_left
  ·simp [c5]
  obtain ⟨z9, hz9, hr⟩ := bs hr
  obtain rfl := Option.some.inj hz9
  refine ee_seq_reg rfl (by simp [hT71, ehy4, c5]; rfl) ?_
  rw [if_pos] at hr
  rotate_left
  ·simp [c5]
  refine ee_seq_condT (by simp [bV, c5]) ?_
  refine ee_assoc ?_
  refine ee_seq_reg rfl (by simp [c5]; rfl) ?_
  refine ee_seq_ret ?_
  obtain rfl := Option.some.inj hr
  simp [FinQ, c5]
def kp84 : Keep := fun i => ⟨[], [], []⟩
theorem w84 {T : Tab} (a0 : Int) (a1 : Int) (a2 : Int) (x : Bool) (hr : Lref33_in a0 a1 a2 = some x) : ∃ kp fl n, execFn tt T G kp fl n Tryd.f84 (E84 (a0, a1, a2)) = some (R84 (a0, a1, a2) x) := by
 simp only [E84, R84]
 refine fnE (kp := kp84) (w := false) body84 ?_
 unfold c84
 rw [Tryd.ntmps84]
 unfold Lref33_in at hr
 refine ee_seq_reg rfl (by simp []; rfl) ?_
 by_cases c1 : a1 ≤ a0
 ·skip
  refine ee_seq_reg rfl (by simp [c1]; rfl) ?_
  refine ee_ret ?_
  obtain rfl := Option.some.inj hr
  simp [FinQ, c1]
 ·skip
  refine ee_seq_reg rfl (by simp [c1]; rfl) ?_
  refine ee_ret ?_
  obtain rfl := Option.some.inj hr
  simp [FinQ, c1]
def kp56 : Keep := fun i => ⟨[], [], []⟩
theorem w56 {T : Tab} (hT84 : T 84 = some G84) (a0 : Int) (a1 : Int) (x : Int) (hr : Lref33_Rate a0 a1 = some x) : ∃ kp fl n, execFn tt T G kp fl n Tryd.f56 (E56 (a0, a1)) = some (R56 (a0, a1) x) := by
 simp only [E56, R56]
 refine fnE (kp := kp56) (w := false) body56 ?_
 unfold c56
 rw [Tryd.ntmps56]
 unfold Lref33_Rate at hr
 refine ee_seq_reg rfl (by simp []; rfl) ?_
 refine ee_assoc ?_
 by_cases c4 : a0 < 0
 ·skip
  rw [if_pos] at hr
  rotate_left
  ·simp [c4]
  obtain ⟨z5, hz5, hr⟩ := bs hr
  obtain rfl := Option.some.inj hz5
  refine ee_seq_reg rfl (by simp [c4]; rfl) ?_
  rw [if_pos] at hr
  rotate_left
  ·simp [c4]
  refine ee_seq_condT (by simp [bV, c4]) ?_
  refine ee_assoc ?_
  refine ee_seq_reg rfl (by simp [c4]; rfl) ?_
  refine ee_seq_ret ?_
  obtain rfl := Option.some.inj hr
  simp [FinQ, c4]
 ·skip
  by_cases c6 : 2100000000000000 < a0
  ·skip
   rw [if_pos] at hr
   rotate_left
   ·simp [c4, c6]
   obtain ⟨z7, hz7, hr⟩ := bs hr
   obtain rfl := Option.some.inj hz7
   refine ee_seq_reg rfl (by simp [c4, c6]; rfl) ?_
   rw [if_pos] at hr
   rotate_left
   ·simp [c4, c6]
   refine ee_seq_condT (by simp [bV, c4, c6]) ?_
   refine ee_assoc ?_
   refine ee_seq_reg rfl (by simp [c4, c6]; rfl) ?_
   refine ee_seq_ret ?_
   obtain rfl := Option.some.inj hr
   simp [FinQ, c4, c6]
  ·skip
   rw [if_neg] at hr
   rotate_left
   ·simp [c4, c6]
   obtain ⟨z8, hz8, hr⟩ := bs hr
   obtain ⟨y9, hy9, hz8⟩ := bs hz8
   have ehy9 := G84_eq hy9
   simp only [E84, R84, nf, nfs] at ehy9
   obtain rfl := Option.some.inj hz8
   refine ee_seq_reg rfl (by simp [hT84, ehy9, c4, c6]; rfl) ?_
   by_cases c10 : y9 = true
   ·skip
    rw [if_neg] at hr
    rotate_left
    ·simp [c4, c6, c10]
    refine ee_seq_condF (by simp [bV, c4, c6, c10]) ?_
    refine ee_seq_skip ?_
    obtain ⟨_, u11, hr⟩ := bs hr
    have u11_0 := chk_some u11
    refine ee_seq_reg rfl (by simp [u11_0, c4, c6, c10]; rfl) ?_
    refine ee_ret ?_
    obtain rfl := Option.some.inj hr
    simp [FinQ, u11_0, c4, c6, c10]
   ·skip
    rw [if_pos] at hr
    rotate_left
    ·simp [c4, c6, c10]
    refine ee_seq_condT (by simp [bV, c4, c6, c10]) ?_
    refine ee_assoc ?_
    refine ee_seq_reg rfl (by simp [c4, c6, c10]; rfl) ?_
    refine ee_seq_ret ?_
    obtain rfl := Option.some.inj hr
    simp [FinQ, c4, c6, c10]
end Go.Proofs.YtconfbgcjkjnkaaDoor
