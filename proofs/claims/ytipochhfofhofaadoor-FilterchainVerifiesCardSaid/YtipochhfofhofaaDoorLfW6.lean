import Derived.Test.YtipochhfofhofaaDoorLfK
import Derived.Test.YtipochhfofhofaaDoorCode
namespace Go.Proofs.YtipochhfofhofaaDoor
open Go.RowKit
open Go.Av
open Go.Lc
set_option maxRecDepth 100000
set_option linter.unusedSimpArgs false
set_option linter.unusedVariables false
set_option maxHeartbeats 4000000
def kp7 : Keep := fun i => ⟨[], [], []⟩
theorem w7 {T : Tab} (hO : T.own = fun _ => []) (hT8 : T 8 = some G8) (hT9 : T 9 = some G9) (hT29 : T 29 = some G29) (hT30 : T 30 = some G30) (a0 : Tapi_FilterChain) (a1 : Int) (a2 : Tapi_Filter) (x : Bool) (hr : Llaw21_FilterchainVerifies a0 a1 a2 = some x) : ∃ kp fl n, execFn tt T G kp fl n Tryd.f7 (E7 (a0, a1, a2)) = some (R7 (a0, a1, a2) x) := by
 simp only [E7, R7]
 refine fnE (kp := kp7) (w := false) body7 (by simp) ?_
 unfold c7
 rw [Tryd.ntmps7]
 unfold Llaw21_FilterchainVerifies at hr
 refine ee_seq_reg rfl (by simp []; rfl) ?_
 refine ee_assoc ?_
 obtain ⟨y5, hy5, hr⟩ := bs hr
 have ehy5 := G8_eq hy5
 simp only [E8, R8, nf, nfs] at ehy5
 refine ee_seq_reg rfl (by simp [hO, hT8, ehy5]; rfl) ?_
 by_cases c6 : y5 = true
 ·skip
  rw [if_neg (not_not_intro c6)] at hr
  refine ee_seq_condF (by simp [bV, c6]) ?_
  refine ee_seq_skip ?_
  refine ee_assoc ?_
  obtain ⟨y7, hy7, hr⟩ := bs hr
  have ehy7 := G9_eq hy7
  simp only [E9, R9, nf, nfs] at ehy7
  by_cases c8 : y7 = true
  ·skip
   refine ee_seq_reg rfl (by simp [hO, hT9, ehy7, c6, c8]; rfl) ?_
   by_cases c9 : 400 < (a2.2.length : Int)
   ·skip
    have c9N := c9
    try simp at c9N
    first | have c9M : (_ = _) = True := eq_true c9N | have c9M := c9N
    rw [if_pos] at hr
    rotate_left
    ·simp [c6, c8, c9, c9M]
    refine ee_seq_condT (by simp [bV, c6, c8, c9, c9M]) ?_
    refine ee_assoc ?_
    refine ee_seq_reg rfl (by simp [c6, c8, c9, c9M]; rfl) ?_
    refine ee_seq_ret ?_
    obtain rfl := Option.some.inj hr
    simp [FinQ, c6, c8, c9, c9M, c9N]
   ·skip
    have c9N := c9
    try simp at c9N
    first | have c9M : (_ = _) = True := eq_true c9N | have c9M := c9N
    rw [if_neg] at hr
    rotate_left
    ·simp [c6, c8, c9, c9M]
    refine ee_seq_condF (by simp [bV, c6, c8, c9, c9M]) ?_
    refine ee_seq_skip ?_
    obtain ⟨y10, hy10, hr⟩ := bs hr
    have ehy10 := G29_eq hy10
    simp only [E29, R29, nf, nfs] at ehy10
    obtain ⟨y11, hy11, hr⟩ := bs hr
    have ehy11 := G30_eq hy11
    simp only [E30, R30, nf, nfs] at ehy11
    refine ee_seq_draw rfl (by simp [hO, hT29, ehy10, hT30, ehy11, c6, c8, c9, c9M]; first | exact ⟨rfl, rfl⟩ | rfl) (by kernel_rfl) ?_
    refine ee_ret ?_
    obtain rfl := Option.some.inj hr
    simp [FinQ, hO, hT29, ehy10, hT30, ehy11, c6, c8, c9, c9M, c9N]
  ·skip
   refine ee_seq_reg rfl (by simp [hO, hT9, ehy7, c6, c8]; rfl) ?_
   rw [if_pos] at hr
   rotate_left
   ·simp [c6, c8]
   refine ee_seq_condT (by simp [bV, c6, c8]) ?_
   refine ee_assoc ?_
   refine ee_seq_reg rfl (by simp [c6, c8]; rfl) ?_
   refine ee_seq_ret ?_
   obtain rfl := Option.some.inj hr
   simp [FinQ, c6, c8]
 ·skip
  rw [if_pos c6] at hr
  refine ee_seq_condT (by simp [bV, c6]) ?_
  refine ee_assoc ?_
  refine ee_seq_reg rfl (by simp [c6]; rfl) ?_
  refine ee_seq_ret ?_
  obtain rfl := Option.some.inj hr
  simp [FinQ, c6]
end Go.Proofs.YtipochhfofhofaaDoor
