import Derived.Test.YtbjhgolpnjokbaaGreatLfK
import Derived.Test.YtbjhgolpnjokbaaGreatCode
import Derived.Test.YtbjhgolpnjokbaaGreatBl
namespace Go.Proofs.YtbjhgolpnjokbaaGreat
open Go.RowKit
open Go.Av
open Go.Lc
set_option maxRecDepth 100000
set_option linter.unusedSimpArgs false
set_option linter.unusedVariables false
set_option maxHeartbeats 4000000
variable {G : Glob}
def kp3 : Keep := fun i => ⟨[], [], []⟩
theorem w3 {T : Tab} (hO : T.own = fun _ => []) (hT5 : T 5 = some G5) (hT6 : T 6 = some G6) (hT7 : T 7 = some G7) (hT8 : T 8 = some G8) (hT9 : T 9 = some G9) (hT10 : T 10 = some G10) (hT11 : T 11 = some G11) (hT12 : T 12 = some G12) (hT13 : T 13 = some G13) (a0 : (List Int)) (a1 : Int) (a2 : Int) (x : Bool) (hr : YT a0 a1 a2 = some x) : ∃ kp fl n, Zs tt T G kp fl n Tryz.f3 (E3 (a0, a1, a2)) = some (R3 (a0, a1, a2) x) := by
 simp only [E3, R3]
 refine fnE (kp := kp3) (w := false) body3 (by simp) ?_
 unfold c3
 rw [Tryz.ntmps3]
 unfold YT at hr
 refine Za rfl (by simp []; rfl) ?_
 refine Zb ?_
 obtain ⟨y14, hy14, hr⟩ := bs hr
 have ehy14 := ZsL hy14
 simp only [E5, R5, nf, nfs] at ehy14
 refine Za rfl (by simp [hO, hT5, ehy14]; rfl) ?_
 by_cases c15 : y14 = true
 ·skip
  rw [if_neg (not_not_intro c15)] at hr
  refine Ze (by simp [bV, c15]) ?_
  refine Zg ?_
  obtain ⟨y16, hy16, hr⟩ := bs hr
  have ehy16 := ZsN hy16
  simp only [E7, R7, nf, nfs] at ehy16
  obtain ⟨y17, hy17, hr⟩ := bs hr
  have ehy17 := ZsM hy17
  simp only [E6, R6, nf, nfs] at ehy17
  refine Za rfl (by simp [hO, hT7, ehy16, hT6, ehy17, c15]; rfl) ?_
  obtain ⟨y18, hy18, hr⟩ := bs hr
  have ehy18 := ZsO hy18
  simp only [E8, R8, nf, nfs] at ehy18
  refine Za rfl (by simp [hO, hT8, ehy18, c15]; rfl) ?_
  obtain ⟨y19, hy19, hr⟩ := bs hr
  have ehy19 := ZsP hy19
  simp only [E9, R9, nf, nfs] at ehy19
  refine Za rfl (by simp [hO, hT9, ehy19, c15]; rfl) ?_
  obtain ⟨y20, hy20, hr⟩ := bs hr
  have ehy20 := ZrP hy20
  simp only [E10, R10, nf, nfs] at ehy20
  refine Za rfl (by simp [hO, hT10, ehy20, c15]; rfl) ?_
  obtain ⟨y21, hy21, hr⟩ := bs hr
  have ehy21 := ZoW hy21
  simp only [E11, R11, nf, nfs] at ehy21
  obtain ⟨y22, hy22, hr⟩ := bs hr
  have ehy22 := ZoY hy22
  simp only [E12, R12, nf, nfs] at ehy22
  by_cases c23 : (y21 == y22) = true
  ·skip
   rw [if_pos] at hr
   rotate_left
   ·simp [c15, c23]
   obtain ⟨z24, hz24, hr⟩ := bs hr
   obtain ⟨y25, hy25, hz24⟩ := bs hz24
   have ehy25 := ZoW hy25
   simp only [E11, R11, nf, nfs] at ehy25
   obtain ⟨y26, hy26, hz24⟩ := bs hz24
   have ehy26 := ZoY hy26
   simp only [E12, R12, nf, nfs] at ehy26
   obtain rfl := Option.some.inj hz24
   by_cases c27 : (y25 == y26) = true
   ·skip
    by_cases c28 : y19.2 = y20.2
    ·skip
     rw [if_pos] at hr
     rotate_left
     ·simp [c15, c23, c27, eq_true c28]
     obtain ⟨z29, hz29, hr⟩ := bs hr
     obtain ⟨y30, hy30, hz29⟩ := bs hz29
     have ehy30 := Zr5 hy30
     simp only [E13, R13, nf, nfs] at ehy30
     obtain rfl := Option.some.inj hz29
     refine ZB rfl (by simp [hO, hT11, ehy21, hT12, ehy22, ehy25, ehy26, hT13, ehy30, c15, c23, c27, eq_true c28]; first | exact ⟨rfl, rfl⟩ | rfl) (by kernel_rfl) ?_
     refine Zi ?_
     obtain rfl := Option.some.inj hr
     simp [Zj, hO, hT11, ehy21, hT12, ehy22, ehy25, ehy26, hT13, ehy30, c15, c23, c27, eq_true c28]
    ·skip
     rw [if_neg] at hr
     rotate_left
     ·simp [c15, c23, c27, c28]
     obtain ⟨z31, hz31, hr⟩ := bs hr
     obtain rfl := Option.some.inj hz31
     refine ZB rfl (by simp [hO, hT11, ehy21, hT12, ehy22, ehy25, ehy26, c15, c23, c27, c28]; first | exact ⟨rfl, rfl⟩ | rfl) (by kernel_rfl) ?_
     refine Zi ?_
     obtain rfl := Option.some.inj hr
     simp [Zj, hO, hT11, ehy21, hT12, ehy22, ehy25, ehy26, c15, c23, c27, c28]
   ·skip
    rw [if_neg] at hr
    rotate_left
    ·simp [c15, c23, c27]
    obtain ⟨z32, hz32, hr⟩ := bs hr
    obtain rfl := Option.some.inj hz32
    refine ZB rfl (by simp [hO, hT11, ehy21, hT12, ehy22, ehy25, ehy26, c15, c23, c27]; first | exact ⟨rfl, rfl⟩ | rfl) (by kernel_rfl) ?_
    refine Zi ?_
    obtain rfl := Option.some.inj hr
    simp [Zj, hO, hT11, ehy21, hT12, ehy22, ehy25, ehy26, c15, c23, c27]
  ·skip
   rw [if_neg] at hr
   rotate_left
   ·simp [c15, c23]
   obtain ⟨z33, hz33, hr⟩ := bs hr
   obtain rfl := Option.some.inj hz33
   rw [if_neg] at hr
   rotate_left
   ·simp [c15, c23]
   obtain ⟨z34, hz34, hr⟩ := bs hr
   obtain rfl := Option.some.inj hz34
   refine ZB rfl (by simp [hO, hT11, ehy21, hT12, ehy22, c15, c23]; first | exact ⟨rfl, rfl⟩ | rfl) (by kernel_rfl) ?_
   refine Zi ?_
   obtain rfl := Option.some.inj hr
   simp [Zj, hO, hT11, ehy21, hT12, ehy22, c15, c23]
 ·skip
  rw [if_pos c15] at hr
  refine Zd (by simp [bV, c15]) ?_
  refine Zb ?_
  refine Za rfl (by simp [c15]; rfl) ?_
  refine Zn ?_
  obtain rfl := Option.some.inj hr
  simp [Zj, c15]
end Go.Proofs.YtbjhgolpnjokbaaGreat
