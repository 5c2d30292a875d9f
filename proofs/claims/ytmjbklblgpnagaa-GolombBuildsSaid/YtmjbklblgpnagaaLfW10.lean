import Derived.Test.YtmjbklblgpnagaaLfK
import Derived.Test.YtmjbklblgpnagaaCode
import Derived.Test.YtmjbklblgpnagaaBl
namespace Go.Proofs.Ytmjbklblgpnagaa
open Go.RowKit
open Go.Av
open Go.Lc
set_option maxRecDepth 100000
set_option linter.unusedSimpArgs false
set_option linter.unusedVariables false
set_option maxHeartbeats 4000000
variable {G : Glob}
def kp4 : Keep := fun i => ⟨[], [], []⟩
theorem w4 {T : Tab} (hO : T.own = fun _ => []) (hT12 : T 12 = some G12) (hT15 : T 15 = some G15) (hT16 : T 16 = some G16) (hT17 : T 17 = some G17) (hT18 : T 18 = some G18) (a0 : (Arr 2)) (a1 : (List (List Int))) (a2 : Int) (a3 : Int) (x : Bool) (hr : Llaw19_GolombBuilds a0 a1 a2 a3 = some x) : ∃ kp fl n, execFn tt T G kp fl n Try.f4 (E4 (a0, a1, a2, a3)) = some (R4 (a0, a1, a2, a3) x) := by
 simp only [E4, R4]
 refine fnE (kp := kp4) (w := false) body4 (by simp) ?_
 unfold c4
 rw [Try.ntmps4]
 unfold Llaw19_GolombBuilds at hr
 refine ee_seq_reg rfl (by simp []; rfl) ?_
 refine ee_assoc ?_
 obtain ⟨y7, hy7, hr⟩ := bs hr
 have ehy7 := G12_eq hy7
 simp only [E12, R12, nf, nfs] at ehy7
 refine ee_seq_reg rfl (by simp [hO, hT12, ehy7]; rfl) ?_
 by_cases c8 : y7 = true
 ·skip
  rw [if_neg (not_not_intro c8)] at hr
  refine ee_seq_condF (by simp [bV, c8]) ?_
  refine ee_seq_skip ?_
  refine ee_assoc ?_
  obtain ⟨y9, hy9, hr⟩ := bs hr
  have ehy9 := G16_eq hy9
  simp only [E16, R16, nf, nfs] at ehy9
  refine ee_seq_reg rfl (by simp [hO, hT16, ehy9, c8]; rfl) ?_
  by_cases c10 : y9 = true
  ·skip
   rw [if_neg (not_not_intro c10)] at hr
   refine ee_seq_condF (by simp [bV, c8, c10]) ?_
   refine ee_seq_skip ?_
   obtain ⟨y11, hy11, hr⟩ := bs hr
   have ehy11 := G17_eq hy11
   simp only [E17, R17, nf, nfs] at ehy11
   refine ee_seq_reg rfl (by simp [hO, hT17, ehy11, c8, c10]; rfl) ?_
   obtain ⟨y12, hy12, hr⟩ := bs hr
   have ehy12 := G18_eq hy12
   simp only [E18, R18, nf, nfs] at ehy12
   refine ee_seq_reg rfl (by simp [hO, hT18, ehy12, c8, c10]; rfl) ?_
   by_cases c13 : y11.2 = y12.2
   ·skip
    rw [if_pos] at hr
    rotate_left
    ·simp [c8, c10, eq_true c13]
    obtain ⟨z14, hz14, hr⟩ := bs hr
    obtain ⟨y15, hy15, hz14⟩ := bs hz14
    have ehy15 := G15_eq hy15
    simp only [E15, R15, nf, nfs] at ehy15
    obtain rfl := Option.some.inj hz14
    refine ee_seq_reg rfl (by simp [hO, hT15, ehy15, c8, c10, eq_true c13]; rfl) ?_
    refine ee_ret ?_
    obtain rfl := Option.some.inj hr
    simp [FinQ, hO, hT15, ehy15, c8, c10, eq_true c13]
   ·skip
    rw [if_neg] at hr
    rotate_left
    ·simp [c8, c10, c13]
    obtain ⟨z16, hz16, hr⟩ := bs hr
    obtain rfl := Option.some.inj hz16
    refine ee_seq_reg rfl (by simp [c8, c10, c13]; rfl) ?_
    refine ee_ret ?_
    obtain rfl := Option.some.inj hr
    simp [FinQ, c8, c10, c13]
  ·skip
   rw [if_pos c10] at hr
   refine ee_seq_condT (by simp [bV, c8, c10]) ?_
   refine ee_assoc ?_
   refine ee_seq_reg rfl (by simp [c8, c10]; rfl) ?_
   refine ee_seq_ret ?_
   obtain rfl := Option.some.inj hr
   simp [FinQ, c8, c10]
 ·skip
  rw [if_pos c8] at hr
  refine ee_seq_condT (by simp [bV, c8]) ?_
  refine ee_assoc ?_
  refine ee_seq_reg rfl (by simp [c8]; rfl) ?_
  refine ee_seq_ret ?_
  obtain rfl := Option.some.inj hr
  simp [FinQ, c8]
end Go.Proofs.Ytmjbklblgpnagaa
