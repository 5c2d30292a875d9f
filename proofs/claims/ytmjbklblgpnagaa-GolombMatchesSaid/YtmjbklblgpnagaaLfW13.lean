import Derived.Test.YtmjbklblgpnagaaLfK
import Derived.Test.YtmjbklblgpnagaaCode
import Derived.Test.YtmjbklblgpnagaaBl
namespace Go.Proofs.Ytmjbklblgpnagaa
open Go.RowKit
open Go.Av
open Go.Lc
set_option maxRecDepth 100000
set_option linter.unusedSimpArgs false
set_option linter.unusedVariables false
set_option maxHeartbeats 4000000
variable {G : Glob}
def kp9 : Keep := fun i => ⟨[], [], []⟩
theorem w9 {T : Tab} (hO : T.own = fun _ => []) (hT12 : T 12 = some G12) (hT16 : T 16 = some G16) (hT18 : T 18 = some G18) (hT24 : T 24 = some G24) (hT25 : T 25 = some G25) (a0 : (Arr 2)) (a1 : Tapi_Filter) (a2 : (List (List Int))) (a3 : (List (List Int))) (a4 : Int) (a5 : Int) (x : Bool) (hr : Xz a0 a1 a2 a3 a4 a5 = some x) : ∃ kp fl n, ZI tt T G kp fl n Try.f9 (E9 (a0, a1, a2, a3, a4, a5)) = some (R9 (a0, a1, a2, a3, a4, a5) x) := by
 simp only [E9, R9]
 refine fnE (kp := kp9) (w := false) body9 (by simp) ?_
 unfold c9
 rw [Try.ntmps9]
 unfold Xz at hr
 refine Za rfl (by simp []; rfl) ?_
 refine Zf ?_
 obtain ⟨y11, hy11, hr⟩ := bs hr
 have ehy11 := Zn8 hy11
 simp only [E12, R12, nf, nfs] at ehy11
 refine Za rfl (by simp [hO, hT12, ehy11]; rfl) ?_
 by_cases c12 : y11 = true
 ·skip
  rw [if_neg (not_not_intro c12)] at hr
  refine Zg (by simp [bV, c12]) ?_
  refine Zh ?_
  refine Zf ?_
  by_cases c13 : 400 < (a1.2.length : Int)
  ·skip
   have c13N := c13
   try simp at c13N
   first | have c13M : (_ = _) = True := eq_true c13N | have c13M := c13N
   rw [if_pos] at hr
   rotate_left
   ·simp [c12, c13, c13M]
   obtain ⟨z14, hz14, hr⟩ := bs hr
   obtain rfl := Option.some.inj hz14
   rw [if_pos] at hr
   rotate_left
   ·simp [c12, c13, c13M]
   obtain ⟨z15, hz15, hr⟩ := bs hr
   obtain rfl := Option.some.inj hz15
   refine Za rfl (by simp [c12, c13, c13M]; rfl) ?_
   rw [if_pos] at hr
   rotate_left
   ·simp [c12, c13, c13M]
   refine Ze (by simp [bV, c12, c13, c13M]) ?_
   refine Zf ?_
   refine Za rfl (by simp [c12, c13, c13M]; rfl) ?_
   refine Zl ?_
   obtain rfl := Option.some.inj hr
   simp [Zn, c12, c13, c13M, c13N]
  ·skip
   have c13N := c13
   try simp at c13N
   first | have c13M : (_ = _) = True := eq_true c13N | have c13M := c13N
   rw [if_neg] at hr
   rotate_left
   ·simp [c12, c13, c13M]
   obtain ⟨z16, hz16, hr⟩ := bs hr
   obtain ⟨y17, hy17, hz16⟩ := bs hz16
   have ehy17 := Zlw hy17
   simp only [E16, R16, nf, nfs] at ehy17
   obtain rfl := Option.some.inj hz16
   by_cases c18 : y17 = true
   ·skip
    rw [if_neg] at hr
    rotate_left
    ·simp [c12, c13, c13M, c18]
    obtain ⟨z19, hz19, hr⟩ := bs hr
    obtain ⟨y20, hy20, hz19⟩ := bs hz19
    have ehy20 := Zlw hy20
    simp only [E16, R16, nf, nfs] at ehy20
    obtain rfl := Option.some.inj hz19
    refine Za rfl (by simp [hO, hT16, ehy17, ehy20, c12, c13, c13M, c18]; rfl) ?_
    by_cases c21 : y20 = true
    ·skip
     rw [if_neg] at hr
     rotate_left
     ·simp [c12, c13, c13M, c18, c21]
     refine Zg (by simp [bV, c12, c13, c13M, c18, c21]) ?_
     refine Zh ?_
     obtain ⟨y22, hy22, hr⟩ := bs hr
     have ehy22 := ZlE hy22
     simp only [E24, R24, nf, nfs] at ehy22
     refine Za rfl (by simp [hO, hT24, ehy22, c12, c13, c13M, c18, c21]; rfl) ?_
     obtain ⟨y23, hy23, hr⟩ := bs hr
     have ehy23 := ZlG hy23
     simp only [E25, R25, nf, nfs] at ehy23
     refine Za rfl (by simp [hO, hT25, ehy23, c12, c13, c13M, c18, c21]; rfl) ?_
     refine Zf ?_
     by_cases c24 : (y22.1 == y23.1) = true
     ·skip
      refine Za rfl (by simp [c12, c13, c13M, c18, c21, c24]; rfl) ?_
      by_cases c25 : y22.2 = y23.2
      ·skip
       rw [if_neg] at hr
       rotate_left
       ·simp [c12, c13, c13M, c18, c21, c24, eq_true c25]
       refine Zg (by simp [bV, c12, c13, c13M, c18, c21, c24, eq_true c25]) ?_
       refine Zh ?_
       obtain ⟨y26, hy26, hr⟩ := bs hr
       have ehy26 := Zoh hy26
       simp only [E18, R18, nf, nfs] at ehy26
       refine Za rfl (by simp [hO, hT18, ehy26, c12, c13, c13M, c18, c21, c24, eq_true c25]; rfl) ?_
       refine Zf ?_
       refine Za rfl (by simp [c12, c13, c13M, c18, c21, c24, eq_true c25]; rfl) ?_
       by_cases c27 : y26.2 = 0
       ·skip
        rw [if_neg (not_not_intro c27)] at hr
        refine Zg (by simp [bV, c12, c13, c13M, c18, c21, c24, eq_true c25, eq_true c27]) ?_
        refine Zh ?_
        obtain ⟨y28, hy28, hr⟩ := bs hr
        have ehy28 := ZlE hy28
        simp only [E24, R24, nf, nfs] at ehy28
        refine Za rfl (by simp [hO, hT24, ehy28, c12, c13, c13M, c18, c21, c24, eq_true c25, eq_true c27]; rfl) ?_
        obtain ⟨y29, hy29, hr⟩ := bs hr
        have ehy29 := ZlG hy29
        simp only [E25, R25, nf, nfs] at ehy29
        refine Za rfl (by simp [hO, hT25, ehy29, c12, c13, c13M, c18, c21, c24, eq_true c25, eq_true c27]; rfl) ?_
        by_cases c30 : (y28.1 == y29.1) = true
        ·skip
         refine Za rfl (by simp [c12, c13, c13M, c18, c21, c24, eq_true c25, eq_true c27, c30]; rfl) ?_
         refine Zx ?_
         obtain rfl := Option.some.inj hr
         simp [Zn, c12, c13, c13M, c18, c21, c24, eq_true c25, eq_true c27, c30, c13N]
        ·skip
         refine Za rfl (by simp [c12, c13, c13M, c18, c21, c24, eq_true c25, eq_true c27, c30]; rfl) ?_
         refine Zx ?_
         obtain rfl := Option.some.inj hr
         simp [Zn, c12, c13, c13M, c18, c21, c24, eq_true c25, eq_true c27, c30, c13N]
       ·skip
        rw [if_pos c27] at hr
        refine Ze (by simp [bV, c12, c13, c13M, c18, c21, c24, eq_true c25, c27]) ?_
        refine Zf ?_
        refine Za rfl (by simp [c12, c13, c13M, c18, c21, c24, eq_true c25, c27]; rfl) ?_
        refine Zl ?_
        obtain rfl := Option.some.inj hr
        simp [Zn, c12, c13, c13M, c18, c21, c24, eq_true c25, c27, c13N]
      ·skip
       rw [if_pos] at hr
       rotate_left
       ·simp [c12, c13, c13M, c18, c21, c24, c25]
       refine Ze (by simp [bV, c12, c13, c13M, c18, c21, c24, c25]) ?_
       refine Zf ?_
       refine Za rfl (by simp [c12, c13, c13M, c18, c21, c24, c25]; rfl) ?_
       refine Zl ?_
       obtain rfl := Option.some.inj hr
       simp [Zn, c12, c13, c13M, c18, c21, c24, c25, c13N]
     ·skip
      refine Za rfl (by simp [c12, c13, c13M, c18, c21, c24]; rfl) ?_
      rw [if_pos] at hr
      rotate_left
      ·simp [c12, c13, c13M, c18, c21, c24]
      refine Ze (by simp [bV, c12, c13, c13M, c18, c21, c24]) ?_
      refine Zf ?_
      refine Za rfl (by simp [c12, c13, c13M, c18, c21, c24]; rfl) ?_
      refine Zl ?_
      obtain rfl := Option.some.inj hr
      simp [Zn, c12, c13, c13M, c18, c21, c24, c13N]
    ·skip
     rw [if_pos] at hr
     rotate_left
     ·simp [c12, c13, c13M, c18, c21]
     refine Ze (by simp [bV, c12, c13, c13M, c18, c21]) ?_
     refine Zf ?_
     refine Za rfl (by simp [c12, c13, c13M, c18, c21]; rfl) ?_
     refine Zl ?_
     obtain rfl := Option.some.inj hr
     simp [Zn, c12, c13, c13M, c18, c21, c13N]
   ·skip
    rw [if_pos] at hr
    rotate_left
    ·simp [c12, c13, c13M, c18]
    obtain ⟨z31, hz31, hr⟩ := bs hr
    obtain rfl := Option.some.inj hz31
    refine Za rfl (by simp [hO, hT16, ehy17, c12, c13, c13M, c18]; rfl) ?_
    rw [if_pos] at hr
    rotate_left
    ·simp [c12, c13, c13M, c18]
    refine Ze (by simp [bV, c12, c13, c13M, c18]) ?_
    refine Zf ?_
    refine Za rfl (by simp [c12, c13, c13M, c18]; rfl) ?_
    refine Zl ?_
    obtain rfl := Option.some.inj hr
    simp [Zn, c12, c13, c13M, c18, c13N]
 ·skip
  rw [if_pos c12] at hr
  refine Ze (by simp [bV, c12]) ?_
  refine Zf ?_
  refine Za rfl (by simp [c12]; rfl) ?_
  refine Zl ?_
  obtain rfl := Option.some.inj hr
  simp [Zn, c12]
end Go.Proofs.Ytmjbklblgpnagaa
