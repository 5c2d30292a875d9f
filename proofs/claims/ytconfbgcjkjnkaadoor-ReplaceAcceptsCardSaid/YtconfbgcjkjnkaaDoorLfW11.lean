import Derived.Test.YtconfbgcjkjnkaaDoorLfK
import Derived.Test.YtconfbgcjkjnkaaDoorCode
namespace Go.Proofs.YtconfbgcjkjnkaaDoor
open Go.RowKit
open Go.Av
open Go.Lc
set_option maxRecDepth 100000
set_option linter.unusedSimpArgs false
set_option linter.unusedVariables false
set_option maxHeartbeats 4000000
def kp19 : Keep := fun i => if i = 9 then ⟨[0, 2, 4, 8], [4], []⟩ else if i = 14 then ⟨[0, 2, 4, 9], [4], []⟩ else if i = 19 then ⟨[0, 2, 4, 10], [4], []⟩ else if i = 24 then ⟨[0, 2, 4, 11], [4], []⟩ else if i = 30 then ⟨[0, 2, 4, 12, 13], [4], []⟩ else ⟨[], [], []⟩
theorem w19 {T : Tab} (hT12 : T 12 = some G12) (hT14 : T 14 = some G14) (hT24 : T 24 = some G24) (hT51 : T 51 = some G51) (hT52 : T 52 = some G52) (hT53 : T 53 = some G53) (hT54 : T 54 = some G54) (hT55 : T 55 = some G55) (hT56 : T 56 = some G56) (a0 : (List Tapi_Entry)) (a1 : Tapi_Tx) (a2 : Int) (x : Int) (hr : Lref36_Accept a0 a1 a2 = some x) : ∃ kp fl n, execFn tt T G kp fl n Tryd.f19 (E19 (a0, a1, a2)) = some (R19 (a0, a1, a2) x) := by
 simp only [E19, R19]
 refine fnE (kp := kp19) (w := false) body19 ?_
 unfold c19
 rw [Tryd.ntmps19]
 unfold Lref36_Accept at hr
 refine ee_seq_reg rfl (by simp []; rfl) ?_
 refine ee_assoc ?_
 obtain ⟨y74, hy74, hr⟩ := bs hr
 have ehy74 := G51_eq hy74
 simp only [E51, R51, nf, nfs] at ehy74
 refine ee_seq_reg rfl (by simp [hT51, ehy74]; rfl) ?_
 refine ee_assoc ?_
 refine ee_seq_reg rfl (by simp []; rfl) ?_
 by_cases c75 : y74 = 0
 ·skip
  rw [if_neg (not_not_intro c75)] at hr
  refine ee_seq_condF (by simp [bV, eq_true c75]) ?_
  refine ee_seq_skip ?_
  refine ee_assoc ?_
  obtain ⟨y76, hy76, hr⟩ := bs hr
  have ehy76 := G52_eq hy76
  simp only [E52, R52, nf, nfs] at ehy76
  refine ee_seq_reg rfl (by simp [hT52, ehy76, eq_true c75]; rfl) ?_
  by_cases c77 : y76 = true
  ·skip
   rw [if_pos c77] at hr
   refine ee_seq_condT (by simp [bV, eq_true c75, c77]) ?_
   refine ee_assoc ?_
   refine ee_seq_reg rfl (by simp [eq_true c75, c77]; rfl) ?_
   refine ee_seq_ret ?_
   obtain rfl := Option.some.inj hr
   simp [FinQ, eq_true c75, c77]
  ·skip
   rw [if_neg c77] at hr
   refine ee_seq_condF (by simp [bV, eq_true c75, c77]) ?_
   refine ee_seq_skip ?_
   refine ee_assoc ?_
   obtain ⟨y78, hy78, hr⟩ := bs hr
   have ehy78 := G53_eq hy78
   simp only [E53, R53, nf, nfs] at ehy78
   refine ee_seq_reg rfl (by simp [hT53, ehy78, eq_true c75, c77]; rfl) ?_
   by_cases c79 : y78 = true
   ·skip
    rw [if_neg (not_not_intro c79)] at hr
    refine ee_seq_condF (by simp [bV, eq_true c75, c77, c79]) ?_
    refine ee_seq_skip ?_
    refine ee_assoc ?_
    refine ee_seq_reg rfl (by simp [eq_true c75, c77, c79]; rfl) ?_
    refine ee_seq_block ?_
    refine ee_loop (kq := ⟨[0, 2, 4, 8], [4], []⟩) (H := fun (s : Int) => match s with | p9 => (⟨([.one (.slice .no (List.map eapi_Entry a0))] ++ (und 1 ++ ([.one (.v (.int .i64 a2))] ++ (und 1 ++ ([.ptr 4 0 0 0 4] ++ (und 3 ++ ([.one (.v (.int .i64 p9))] ++ (und 107))))))) : List PV), ([(4, ⟨0, 4, [[.v (.int .u32 a1.1), .slice .no (List.map eapi_Input a1.2.1), .slice .no (List.map eapi_Output a1.2.2.1), .v (.int .u32 a1.2.2.2)]], false, false⟩)] : Boxes)⟩ : ASt)) (by kernel_rfl) hr (by simp [und, List.replicate, eq_true c75, c77, c79]) ?_
    rintro p9 x80r hr80
    simp only [Lref36_Accept_s1] at hr80
    unfold b19_1
    simp only [und, List.replicate, List.cons_append, List.nil_append]
    refine ee_assoc ?_
    refine ee_seq_reg rfl (by simp [eq_true c75, c77, c79]; rfl) ?_
    by_cases c81 : p9 < (a0.length : Int)
    ·skip
     have c81N := c81
     try simp at c81N
     first | have c81M : (_ = _) = True := eq_true c81N | have c81M := c81N
     rw [if_pos] at hr80
     rotate_left
     ·simp [eq_true c75, c77, c79, c81, c81M]
     refine ee_seq_condT (by simp [bV, eq_true c75, c77, c79, c81, c81M]) ?_
     refine ee_seq_skip ?_
     refine ee_seq_block ?_
     obtain ⟨x82, hx82, hr80⟩ := bs hr80
     obtain ⟨hx82a, hx82b⟩ := idx_some hx82
     have hx82c := getE_of hx82b
     obtain ⟨y83, hy83, hr80⟩ := bs hr80
     have ehy83 := G53_eq hy83
     simp only [E53, R53, nf, nfs] at ehy83
     refine ee_seq_reg rfl (by simp [hx82a, hx82b, hx82c, hT53, ehy83, eq_true c75, c77, c79, c81, c81M]; rfl) ?_
     by_cases c84 : y83 = true
     ·skip
      rw [if_neg (not_not_intro c84)] at hr80
      refine ee_condF (by simp [bV, eq_true c75, c77, c79, c81, c81M, c84]) ?_
      refine ee_skip ?_
      simp only [pq, reduceCtorEq]
      refine ee_reg rfl (by simp [eq_true c75, c77, c79, c81, c81M, c84]; rfl) ?_
      obtain rfl := Option.some.inj hr80
      simp only [pq, reduceCtorEq]
      simp [und, List.replicate, Nat.add_assoc, eq_true c75, c77, c79, c81, c81M, c84]
     ·skip
      rw [if_pos c84] at hr80
      refine ee_condT (by simp [bV, eq_true c75, c77, c79, c81, c81M, c84]) ?_
      refine ee_seq_reg rfl (by simp [eq_true c75, c77, c79, c81, c81M, c84]; rfl) ?_
      refine ee_ret ?_
      obtain rfl := Option.some.inj hr80
      simp only [pq, reduceCtorEq]
      rintro rfl
      simp [FinQ, eq_true c75, c77, c79, c81, c81M, c84]
    ·skip
     have c81N := c81
     try simp at c81N
     first | have c81M : (_ = _) = True := eq_true c81N | have c81M := c81N
     rw [if_neg] at hr80
     rotate_left
     ·simp [eq_true c75, c77, c79, c81, c81M]
     refine ee_seq_condF (by simp [bV, eq_true c75, c77, c79, c81, c81M]) ?_
     refine ee_seq_exit ?_
     obtain ⟨r85, q85, rfl⟩ := ms hr80
     simp only [pq, reduceCtorEq]
     rintro rfl
     try simp only [pq, reduceCtorEq]
     unfold Lref36_Accept_k1 at q85
     refine ee_assoc ?_
     refine ee_seq_reg rfl (by simp [eq_true c75, c77, c79, c81, c81M]; rfl) ?_
     refine ee_seq_block ?_
     refine ee_loop (kq := ⟨[0, 2, 4, 9], [4], []⟩) (H := fun (s : Int) => match s with | p17 => (⟨([.one (.slice .no (List.map eapi_Entry a0))] ++ (und 1 ++ ([.one (.v (.int .i64 a2))] ++ (und 1 ++ ([.ptr 4 0 0 0 4] ++ (und 4 ++ ([.one (.v (.int .i64 p17))] ++ (und 106))))))) : List PV), ([(4, ⟨0, 4, [[.v (.int .u32 a1.1), .slice .no (List.map eapi_Input a1.2.1), .slice .no (List.map eapi_Output a1.2.2.1), .v (.int .u32 a1.2.2.2)]], false, false⟩)] : Boxes)⟩ : ASt)) (by kernel_rfl) q85 (by simp [und, List.replicate, eq_true c75, c77, c79, c81, c81M]) ?_
     rintro p17 x86r hr86
     simp only [Lref36_Accept_s2] at hr86
     unfold b19_2
     simp only [und, List.replicate, List.cons_append, List.nil_append]
     refine ee_assoc ?_
     refine ee_seq_reg rfl (by simp [eq_true c75, c77, c79, c81, c81M]; rfl) ?_
     by_cases c87 : p17 < (a0.length : Int)
     ·skip
      have c87N := c87
      try simp at c87N
      first | have c87M : (_ = _) = True := eq_true c87N | have c87M := c87N
      rw [if_pos] at hr86
      rotate_left
      ·simp [eq_true c75, c77, c79, c81, c81M, c87, c87M]
      refine ee_seq_condT (by simp [bV, eq_true c75, c77, c79, c81, c81M, c87, c87M]) ?_
      refine ee_seq_skip ?_
      refine ee_seq_block ?_
      obtain ⟨x88, hx88, hr86⟩ := bs hr86
      obtain ⟨hx88a, hx88b⟩ := idx_some hx88
      have hx88c := getE_of hx88b
      obtain ⟨y89, hy89, hr86⟩ := bs hr86
      have ehy89 := G14_eq hy89
      simp only [E14, R14, nf, nfs] at ehy89
      refine ee_seq_draw rfl (by simp [hx88a, hx88b, hx88c, hT14, ehy89, eq_true c75, c77, c79, c81, c81M, c87, c87M]; first | exact ⟨rfl, rfl⟩ | rfl) (by kernel_rfl) ?_
      by_cases c90 : y89 = true
      ·skip
       rw [if_neg (not_not_intro c90)] at hr86
       refine ee_condF (by simp [bV, eq_true c75, c77, c79, c81, c81M, c87, c87M, c90]) ?_
       refine ee_skip ?_
       simp only [pq, reduceCtorEq]
       refine ee_reg rfl (by simp [eq_true c75, c77, c79, c81, c81M, c87, c87M, c90]; rfl) ?_
       obtain rfl := Option.some.inj hr86
       simp only [pq, reduceCtorEq]
       simp [und, List.replicate, Nat.add_assoc, eq_true c75, c77, c79, c81, c81M, c87, c87M, c90]
      ·skip
       rw [if_pos c90] at hr86
       refine ee_condT (by simp [bV, eq_true c75, c77, c79, c81, c81M, c87, c87M, c90]) ?_
       refine ee_seq_reg rfl (by simp [eq_true c75, c77, c79, c81, c81M, c87, c87M, c90]; rfl) ?_
       refine ee_ret ?_
       obtain rfl := Option.some.inj hr86
       simp only [pq, reduceCtorEq]
       rintro rfl
       simp [FinQ, eq_true c75, c77, c79, c81, c81M, c87, c87M, c90]
     ·skip
      have c87N := c87
      try simp at c87N
      first | have c87M : (_ = _) = True := eq_true c87N | have c87M := c87N
      rw [if_neg] at hr86
      rotate_left
      ·simp [eq_true c75, c77, c79, c81, c81M, c87, c87M]
      refine ee_seq_condF (by simp [bV, eq_true c75, c77, c79, c81, c81M, c87, c87M]) ?_
      refine ee_seq_exit ?_
      obtain ⟨r91, q91, rfl⟩ := ms hr86
      simp only [pq, reduceCtorEq]
      rintro rfl
      try simp only [pq, reduceCtorEq]
      unfold Lref36_Accept_k2 at q91
      refine ee_assoc ?_
      refine ee_seq_reg rfl (by simp [eq_true c75, c77, c79, c81, c81M, c87, c87M]; rfl) ?_
      refine ee_seq_block ?_
      refine ee_loop (kq := ⟨[0, 2, 4, 10], [4], []⟩) (H := fun (s : Int) => match s with | p25 => (⟨([.one (.slice .no (List.map eapi_Entry a0))] ++ (und 1 ++ ([.one (.v (.int .i64 a2))] ++ (und 1 ++ ([.ptr 4 0 0 0 4] ++ (und 5 ++ ([.one (.v (.int .i64 p25))] ++ (und 105))))))) : List PV), ([(4, ⟨0, 4, [[.v (.int .u32 a1.1), .slice .no (List.map eapi_Input a1.2.1), .slice .no (List.map eapi_Output a1.2.2.1), .v (.int .u32 a1.2.2.2)]], false, false⟩)] : Boxes)⟩ : ASt)) (by kernel_rfl) q91 (by simp [und, List.replicate, eq_true c75, c77, c79, c81, c81M, c87, c87M]) ?_
      rintro p25 x92r hr92
      simp only [Lref36_Accept_s3] at hr92
      unfold b19_3
      simp only [und, List.replicate, List.cons_append, List.nil_append]
      refine ee_assoc ?_
      refine ee_seq_reg rfl (by simp [eq_true c75, c77, c79, c81, c81M, c87, c87M]; rfl) ?_
      by_cases c93 : p25 < (a0.length : Int)
      ·skip
       have c93N := c93
       try simp at c93N
       first | have c93M : (_ = _) = True := eq_true c93N | have c93M := c93N
       rw [if_pos] at hr92
       rotate_left
       ·simp [eq_true c75, c77, c79, c81, c81M, c87, c87M, c93, c93M]
       refine ee_seq_condT (by simp [bV, eq_true c75, c77, c79, c81, c81M, c87, c87M, c93, c93M]) ?_
       refine ee_seq_skip ?_
       refine ee_seq_block ?_
       obtain ⟨x94, hx94, hr92⟩ := bs hr92
       obtain ⟨hx94a, hx94b⟩ := idx_some hx94
       have hx94c := getE_of hx94b
       obtain ⟨y95, hy95, hr92⟩ := bs hr92
       have ehy95 := G12_eq hy95
       simp only [E12, R12, nf, nfs] at ehy95
       refine ee_seq_reg rfl (by simp [hx94a, hx94b, hx94c, hT12, ehy95, eq_true c75, c77, c79, c81, c81M, c87, c87M, c93, c93M]; rfl) ?_
       by_cases c96 : y95 = true
       ·skip
        rw [if_neg (not_not_intro c96)] at hr92
        refine ee_condF (by simp [bV, eq_true c75, c77, c79, c81, c81M, c87, c87M, c93, c93M, c96]) ?_
        refine ee_skip ?_
        simp only [pq, reduceCtorEq]
        refine ee_reg rfl (by simp [eq_true c75, c77, c79, c81, c81M, c87, c87M, c93, c93M, c96]; rfl) ?_
        obtain rfl := Option.some.inj hr92
        simp only [pq, reduceCtorEq]
        simp [und, List.replicate, Nat.add_assoc, eq_true c75, c77, c79, c81, c81M, c87, c87M, c93, c93M, c96]
       ·skip
        rw [if_pos c96] at hr92
        refine ee_condT (by simp [bV, eq_true c75, c77, c79, c81, c81M, c87, c87M, c93, c93M, c96]) ?_
        refine ee_seq_reg rfl (by simp [eq_true c75, c77, c79, c81, c81M, c87, c87M, c93, c93M, c96]; rfl) ?_
        refine ee_ret ?_
        obtain rfl := Option.some.inj hr92
        simp only [pq, reduceCtorEq]
        rintro rfl
        simp [FinQ, eq_true c75, c77, c79, c81, c81M, c87, c87M, c93, c93M, c96]
      ·skip
       have c93N := c93
       try simp at c93N
       first | have c93M : (_ = _) = True := eq_true c93N | have c93M := c93N
       rw [if_neg] at hr92
       rotate_left
       ·simp [eq_true c75, c77, c79, c81, c81M, c87, c87M, c93, c93M]
       refine ee_seq_condF (by simp [bV, eq_true c75, c77, c79, c81, c81M, c87, c87M, c93, c93M]) ?_
       refine ee_seq_exit ?_
       obtain ⟨r97, q97, rfl⟩ := ms hr92
       simp only [pq, reduceCtorEq]
       rintro rfl
       try simp only [pq, reduceCtorEq]
       unfold Lref36_Accept_k3 at q97
       refine ee_assoc ?_
       refine ee_seq_reg rfl (by simp [eq_true c75, c77, c79, c81, c81M, c87, c87M, c93, c93M]; rfl) ?_
       refine ee_seq_block ?_
       refine ee_loop (kq := ⟨[0, 2, 4, 11], [4], []⟩) (H := fun (s : Int) => match s with | p33 => (⟨([.one (.slice .no (List.map eapi_Entry a0))] ++ (und 1 ++ ([.one (.v (.int .i64 a2))] ++ (und 1 ++ ([.ptr 4 0 0 0 4] ++ (und 6 ++ ([.one (.v (.int .i64 p33))] ++ (und 104))))))) : List PV), ([(4, ⟨0, 4, [[.v (.int .u32 a1.1), .slice .no (List.map eapi_Input a1.2.1), .slice .no (List.map eapi_Output a1.2.2.1), .v (.int .u32 a1.2.2.2)]], false, false⟩)] : Boxes)⟩ : ASt)) (by kernel_rfl) q97 (by simp [und, List.replicate, eq_true c75, c77, c79, c81, c81M, c87, c87M, c93, c93M]) ?_
       rintro p33 x98r hr98
       simp only [Lref36_Accept_s4] at hr98
       unfold b19_4
       simp only [und, List.replicate, List.cons_append, List.nil_append]
       refine ee_assoc ?_
       refine ee_seq_reg rfl (by simp [eq_true c75, c77, c79, c81, c81M, c87, c87M, c93, c93M]; rfl) ?_
       by_cases c99 : p33 < (a0.length : Int)
       ·skip
        have c99N := c99
        try simp at c99N
        first | have c99M : (_ = _) = True := eq_true c99N | have c99M := c99N
        rw [if_pos] at hr98
        rotate_left
        ·simp [eq_true c75, c77, c79, c81, c81M, c87, c87M, c93, c93M, c99, c99M]
        refine ee_seq_condT (by simp [bV, eq_true c75, c77, c79, c81, c81M, c87, c87M, c93, c93M, c99, c99M]) ?_
        refine ee_seq_skip ?_
        refine ee_seq_block ?_
        obtain ⟨x100, hx100, hr98⟩ := bs hr98
        obtain ⟨hx100a, hx100b⟩ := idx_some hx100
        have hx100c := getE_of hx100b
        obtain ⟨y101, hy101, hr98⟩ := bs hr98
        have ehy101 := G54_eq hy101
        simp only [E54, R54, nf, nfs] at ehy101
        refine ee_seq_draw rfl (by simp [hx100a, hx100b, hx100c, hT54, ehy101, eq_true c75, c77, c79, c81, c81M, c87, c87M, c93, c93M, c99, c99M]; first | exact ⟨rfl, rfl⟩ | rfl) (by kernel_rfl) ?_
        by_cases c102 : y101 = true
        ·skip
         rw [if_pos c102] at hr98
         refine ee_condT (by simp [bV, eq_true c75, c77, c79, c81, c81M, c87, c87M, c93, c93M, c99, c99M, c102]) ?_
         refine ee_seq_reg rfl (by simp [eq_true c75, c77, c79, c81, c81M, c87, c87M, c93, c93M, c99, c99M, c102]; rfl) ?_
         refine ee_ret ?_
         obtain rfl := Option.some.inj hr98
         simp only [pq, reduceCtorEq]
         rintro rfl
         simp [FinQ, eq_true c75, c77, c79, c81, c81M, c87, c87M, c93, c93M, c99, c99M, c102]
        ·skip
         rw [if_neg c102] at hr98
         refine ee_condF (by simp [bV, eq_true c75, c77, c79, c81, c81M, c87, c87M, c93, c93M, c99, c99M, c102]) ?_
         refine ee_skip ?_
         simp only [pq, reduceCtorEq]
         refine ee_reg rfl (by simp [eq_true c75, c77, c79, c81, c81M, c87, c87M, c93, c93M, c99, c99M, c102]; rfl) ?_
         obtain rfl := Option.some.inj hr98
         simp only [pq, reduceCtorEq]
         simp [und, List.replicate, Nat.add_assoc, eq_true c75, c77, c79, c81, c81M, c87, c87M, c93, c93M, c99, c99M, c102]
       ·skip
        have c99N := c99
        try simp at c99N
        first | have c99M : (_ = _) = True := eq_true c99N | have c99M := c99N
        rw [if_neg] at hr98
        rotate_left
        ·simp [eq_true c75, c77, c79, c81, c81M, c87, c87M, c93, c93M, c99, c99M]
        refine ee_seq_condF (by simp [bV, eq_true c75, c77, c79, c81, c81M, c87, c87M, c93, c93M, c99, c99M]) ?_
        refine ee_seq_exit ?_
        obtain ⟨r103, q103, rfl⟩ := ms hr98
        simp only [pq, reduceCtorEq]
        rintro rfl
        try simp only [pq, reduceCtorEq]
        unfold Lref36_Accept_k4 at q103
        obtain ⟨y104, hy104, q103⟩ := bs q103
        have ehy104 := G24_eq hy104
        simp only [E24, R24, nf, nfs] at ehy104
        obtain ⟨y105, hy105, q103⟩ := bs q103
        have ehy105 := G55_eq hy105
        simp only [E55, R55, nf, nfs] at ehy105
        refine ee_seq_reg rfl (by simp [hT24, ehy104, hT55, ehy105, eq_true c75, c77, c79, c81, c81M, c87, c87M, c93, c93M, c99, c99M]; rfl) ?_
        refine ee_assoc ?_
        refine ee_seq_reg rfl (by simp [eq_true c75, c77, c79, c81, c81M, c87, c87M, c93, c93M, c99, c99M]; rfl) ?_
        refine ee_seq_block ?_
        refine ee_loop (kq := ⟨[0, 2, 4, 12, 13], [4], []⟩) (H := fun (s : Int × Int) => match s with | (p52, p53) => (⟨([.one (.slice .no (List.map eapi_Entry a0))] ++ (und 1 ++ ([.one (.v (.int .i64 a2))] ++ (und 1 ++ ([.ptr 4 0 0 0 4] ++ (und 7 ++ ([.one (.v (.int .i64 p52)), .one (.v (.int .i64 p53))] ++ (und 102))))))) : List PV), ([(4, ⟨0, 4, [[.v (.int .u32 a1.1), .slice .no (List.map eapi_Input a1.2.1), .slice .no (List.map eapi_Output a1.2.2.1), .v (.int .u32 a1.2.2.2)]], false, false⟩)] : Boxes)⟩ : ASt)) (by kernel_rfl) q103 (by simp [und, List.replicate, eq_true c75, c77, c79, c81, c81M, c87, c87M, c93, c93M, c99, c99M]) ?_
        rintro ⟨p52, p53⟩ x106r hr106
        simp only [Lref36_Accept_s5] at hr106
        unfold b19_5
        simp only [und, List.replicate, List.cons_append, List.nil_append]
        refine ee_assoc ?_
        refine ee_seq_reg rfl (by simp [eq_true c75, c77, c79, c81, c81M, c87, c87M, c93, c93M, c99, c99M]; rfl) ?_
        by_cases c107 : p53 < (a0.length : Int)
        ·skip
         have c107N := c107
         try simp at c107N
         first | have c107M : (_ = _) = True := eq_true c107N | have c107M := c107N
         rw [if_pos] at hr106
         rotate_left
         ·simp [eq_true c75, c77, c79, c81, c81M, c87, c87M, c93, c93M, c99, c99M, c107, c107M]
         refine ee_seq_condT (by simp [bV, eq_true c75, c77, c79, c81, c81M, c87, c87M, c93, c93M, c99, c99M, c107, c107M]) ?_
         refine ee_seq_skip ?_
         refine ee_seq_block ?_
         refine ee_assoc ?_
         obtain ⟨y108, hy108, hr106⟩ := bs hr106
         have ehy108 := G24_eq hy108
         simp only [E24, R24, nf, nfs] at ehy108
         obtain ⟨y109, hy109, hr106⟩ := bs hr106
         have ehy109 := G56_eq hy109
         simp only [E56, R56, nf, nfs] at ehy109
         obtain ⟨x110, hx110, hr106⟩ := bs hr106
         obtain ⟨hx110a, hx110b⟩ := idx_some hx110
         have hx110c := getE_of hx110b
         obtain ⟨hx110a, hx110b⟩ := idx_some hx110
         have hx110c := getE_of hx110b
         obtain ⟨y111, hy111, hr106⟩ := bs hr106
         have ehy111 := G24_eq hy111
         simp only [E24, R24, nf, nfs] at ehy111
         obtain ⟨y112, hy112, hr106⟩ := bs hr106
         have ehy112 := G56_eq hy112
         simp only [E56, R56, nf, nfs] at ehy112
         refine ee_seq_draw rfl (by simp [hT24, ehy108, hT56, ehy109, hx110a, hx110b, hx110c, ehy111, ehy112, eq_true c75, c77, c79, c81, c81M, c87, c87M, c93, c93M, c99, c99M, c107, c107M]; first | exact ⟨rfl, rfl⟩ | rfl) (by kernel_rfl) ?_
         by_cases c113 : y109 ≤ y112
         ·skip
          rw [if_pos c113] at hr106
          refine ee_seq_condT (by simp [bV, eq_true c75, c77, c79, c81, c81M, c87, c87M, c93, c93M, c99, c99M, c107, c107M, c113]) ?_
          refine ee_assoc ?_
          refine ee_seq_reg rfl (by simp [eq_true c75, c77, c79, c81, c81M, c87, c87M, c93, c93M, c99, c99M, c107, c107M, c113]; rfl) ?_
          refine ee_seq_ret ?_
          obtain rfl := Option.some.inj hr106
          simp only [pq, reduceCtorEq]
          rintro rfl
          simp [FinQ, eq_true c75, c77, c79, c81, c81M, c87, c87M, c93, c93M, c99, c99M, c107, c107M, c113]
         ·skip
          rw [if_neg c113] at hr106
          refine ee_seq_condF (by simp [bV, eq_true c75, c77, c79, c81, c81M, c87, c87M, c93, c93M, c99, c99M, c107, c107M, c113]) ?_
          refine ee_seq_skip ?_
          refine ee_seq_reg rfl (by simp [eq_true c75, c77, c79, c81, c81M, c87, c87M, c93, c93M, c99, c99M, c107, c107M, c113]; rfl) ?_
          by_cases c114 : 0 ≤ p52
          ·skip
           rw [if_pos] at hr106
           rotate_left
           ·simp [eq_true c75, c77, c79, c81, c81M, c87, c87M, c93, c93M, c99, c99M, c107, c107M, c113, c114]
           refine ee_condT (by simp [bV, eq_true c75, c77, c79, c81, c81M, c87, c87M, c93, c93M, c99, c99M, c107, c107M, c113, c114]) ?_
           obtain ⟨hx110a, hx110b⟩ := idx_some hx110
           have hx110c := getE_of hx110b
           refine ee_reg rfl (by simp [hx110a, hx110b, hx110c, eq_true c75, c77, c79, c81, c81M, c87, c87M, c93, c93M, c99, c99M, c107, c107M, c113, c114]; rfl) ?_
           simp only [pq, reduceCtorEq]
           unfold Lref36_Accept_k6 at hr106
           refine ee_reg rfl (by simp [eq_true c75, c77, c79, c81, c81M, c87, c87M, c93, c93M, c99, c99M, c107, c107M, c113, c114]; rfl) ?_
           obtain rfl := Option.some.inj hr106
           simp only [pq, reduceCtorEq]
           simp [und, List.replicate, Nat.add_assoc, eq_true c75, c77, c79, c81, c81M, c87, c87M, c93, c93M, c99, c99M, c107, c107M, c113, c114]
          ·skip
           rw [if_neg] at hr106
           rotate_left
           ·simp [eq_true c75, c77, c79, c81, c81M, c87, c87M, c93, c93M, c99, c99M, c107, c107M, c113, c114]
           refine ee_condF (by simp [bV, eq_true c75, c77, c79, c81, c81M, c87, c87M, c93, c93M, c99, c99M, c107, c107M, c113, c114]) ?_
           refine ee_skip ?_
           simp only [pq, reduceCtorEq]
           unfold Lref36_Accept_k6 at hr106
           refine ee_reg rfl (by simp [eq_true c75, c77, c79, c81, c81M, c87, c87M, c93, c93M, c99, c99M, c107, c107M, c113, c114]; rfl) ?_
           obtain rfl := Option.some.inj hr106
           simp only [pq, reduceCtorEq]
           simp [und, List.replicate, Nat.add_assoc, eq_true c75, c77, c79, c81, c81M, c87, c87M, c93, c93M, c99, c99M, c107, c107M, c113, c114]
        ·skip
         have c107N := c107
         try simp at c107N
         first | have c107M : (_ = _) = True := eq_true c107N | have c107M := c107N
         rw [if_neg] at hr106
         rotate_left
         ·simp [eq_true c75, c77, c79, c81, c81M, c87, c87M, c93, c93M, c99, c99M, c107, c107M]
         refine ee_seq_condF (by simp [bV, eq_true c75, c77, c79, c81, c81M, c87, c87M, c93, c93M, c99, c99M, c107, c107M]) ?_
         refine ee_seq_exit ?_
         obtain ⟨r115, q115, rfl⟩ := ms hr106
         simp only [pq, reduceCtorEq]
         rintro rfl
         try simp only [pq, reduceCtorEq]
         unfold Lref36_Accept_k5 at q115
         refine ee_assoc ?_
         refine ee_seq_reg rfl (by simp [eq_true c75, c77, c79, c81, c81M, c87, c87M, c93, c93M, c99, c99M, c107, c107M]; rfl) ?_
         by_cases c116 : p52 < 0
         ·skip
          rw [if_pos c116] at q115
          refine ee_seq_condT (by simp [bV, eq_true c75, c77, c79, c81, c81M, c87, c87M, c93, c93M, c99, c99M, c107, c107M, c116]) ?_
          refine ee_assoc ?_
          refine ee_seq_reg rfl (by simp [eq_true c75, c77, c79, c81, c81M, c87, c87M, c93, c93M, c99, c99M, c107, c107M, c116]; rfl) ?_
          refine ee_seq_ret ?_
          obtain rfl := Option.some.inj q115
          simp [FinQ, eq_true c75, c77, c79, c81, c81M, c87, c87M, c93, c93M, c99, c99M, c107, c107M, c116]
         ·skip
          rw [if_neg c116] at q115
          refine ee_seq_condF (by simp [bV, eq_true c75, c77, c79, c81, c81M, c87, c87M, c93, c93M, c99, c99M, c107, c107M, c116]) ?_
          refine ee_seq_skip ?_
          refine ee_seq_reg rfl (by simp [eq_true c75, c77, c79, c81, c81M, c87, c87M, c93, c93M, c99, c99M, c107, c107M, c116]; rfl) ?_
          refine ee_ret ?_
          obtain rfl := Option.some.inj q115
          simp [FinQ, eq_true c75, c77, c79, c81, c81M, c87, c87M, c93, c93M, c99, c99M, c107, c107M, c116]
   ·skip
    rw [if_pos c79] at hr
    refine ee_seq_condT (by simp [bV, eq_true c75, c77, c79]) ?_
    refine ee_assoc ?_
    refine ee_seq_reg rfl (by simp [eq_true c75, c77, c79]; rfl) ?_
    refine ee_seq_ret ?_
    obtain rfl := Option.some.inj hr
    simp [FinQ, eq_true c75, c77, c79]
 ·skip
  rw [if_pos c75] at hr
  refine ee_seq_condT (by simp [bV, c75]) ?_
  refine ee_assoc ?_
  refine ee_seq_reg rfl (by simp [c75]; rfl) ?_
  refine ee_seq_ret ?_
  obtain rfl := Option.some.inj hr
  simp [FinQ, c75]
end Go.Proofs.YtconfbgcjkjnkaaDoor
