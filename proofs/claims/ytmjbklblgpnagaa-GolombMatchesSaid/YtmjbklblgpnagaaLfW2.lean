import Derived.Test.YtmjbklblgpnagaaLfK
import Derived.Test.YtmjbklblgpnagaaCode
import Derived.Test.YtmjbklblgpnagaaBl
namespace Go.Proofs.Ytmjbklblgpnagaa
open Go.RowKit
open Go.Av
open Go.Lc
set_option maxRecDepth 100000
set_option linter.unusedSimpArgs false
set_option linter.unusedVariables false
set_option maxHeartbeats 4000000
variable {G : Glob}
def kp61 : Keep := fun i => if i = 2 then ⟨[2, 4, 5, 6], [2, 4], []⟩ else ⟨[], [], []⟩
theorem w61 {T : Tab} (hO : T.own = fun _ => []) (hT67 : T 67 = some G67) (a0 : (Arr 4)) (a1 : Int) (x : (Arr 4)) (hr : Zbg a0 a1 = some x) : ∃ kp fl n, ZI tt T G kp fl n Try.f61 (E61 (a0, a1)) = some (R61 (a0, a1) x) := by
 simp only [E61, R61]
 refine fnE (kp := kp61) (w := false) body61 (by simp) ?_
 unfold c61
 rw [Try.ntmps61]
 unfold Zbg at hr
 refine Za rfl (by simp []; rfl) ?_
 refine Zf ?_
 refine Za rfl (by simp []; rfl) ?_
 refine Zk ?_
 refine ZU (kq := ⟨[2, 4, 5, 6], [2, 4], []⟩) (H := fun (s : Int × (Arr 4)) => match s with | (p19, p20) => (⟨(und 2 ++ ([.ptr 2 0 0 0 4] ++ (und 1 ++ ([.ptr 4 0 0 0 4, .one (.v (.int .i64 a1)), .one (.v (.int .i64 p19))] ++ (und 75)))) : List PV), ([(2, ⟨0, 4, [arC .u64 p20], false, false⟩), (4, ⟨0, 4, [arC .u64 (zA 4)], false, false⟩)] : Boxes)⟩ : ASt)) (by kernel_rfl) hr (by simp [und, List.replicate, ]) ?_
 rintro ⟨p19, p20⟩ x106r hr106
 simp only [ZbJ] at hr106
 unfold b61_1
 simp only [und, List.replicate, List.cons_append, List.nil_append]
 refine Za rfl (by simp []; rfl) ?_
 by_cases c107 : p19 < a1
 ·skip
  rw [if_pos] at hr106
  rotate_left
  ·simp [c107]
  refine Ze (by simp [bV, c107]) ?_
  refine Zh ?_
  refine Zk ?_
  have ar108 := ZJ (k := .u64) (p20) (i := 0) (by decide)
  have as109 := ZL (k := .u64) (p20) (i := 0) (by decide)
  have ar110 := ZJ (k := .u64) (p20) (i := 1) (by decide)
  have as111 := ZL (k := .u64) (p20) (i := 1) (by decide)
  have ap112 := YH (k := .u64) (p20) (i := 0) (by decide) (IntKind.u64.wrap ((p20.at 0) + (p20.at 1)))
  refine Za rfl (by simp [ar108, as109, ar110, as111, ap112, c107]; rfl) ?_
  have ar113 := ZJ (k := .u64) (p20.put 0 (IntKind.u64.wrap ((p20.at 0) + (p20.at 1)))) (i := 1) (by decide)
  have as114 := ZL (k := .u64) (p20.put 0 (IntKind.u64.wrap ((p20.at 0) + (p20.at 1)))) (i := 1) (by decide)
  obtain ⟨y115, hy115, hr106⟩ := bs hr106
  have ehy115 := Zb3 hy115
  simp only [E67, R67, nf, nfs] at ehy115
  have ap116 := YH (k := .u64) (p20.put 0 (IntKind.u64.wrap ((p20.at 0) + (p20.at 1)))) (i := 1) (by decide) (y115)
  refine Za rfl (by simp [ar113, as114, hO, hT67, ehy115, ap116, c107]; rfl) ?_
  have ar117 := ZJ (k := .u64) ((p20.put 0 (IntKind.u64.wrap ((p20.at 0) + (p20.at 1)))).put 1 y115) (i := 1) (by decide)
  have as118 := ZL (k := .u64) ((p20.put 0 (IntKind.u64.wrap ((p20.at 0) + (p20.at 1)))).put 1 y115) (i := 1) (by decide)
  have ar119 := ZJ (k := .u64) ((p20.put 0 (IntKind.u64.wrap ((p20.at 0) + (p20.at 1)))).put 1 y115) (i := 0) (by decide)
  have as120 := ZL (k := .u64) ((p20.put 0 (IntKind.u64.wrap ((p20.at 0) + (p20.at 1)))).put 1 y115) (i := 0) (by decide)
  have ap121 := YH (k := .u64) ((p20.put 0 (IntKind.u64.wrap ((p20.at 0) + (p20.at 1)))).put 1 y115) (i := 1) (by decide) (bits .xor .u64 (((p20.put 0 (IntKind.u64.wrap ((p20.at 0) + (p20.at 1)))).put 1 y115).at 1) (((p20.put 0 (IntKind.u64.wrap ((p20.at 0) + (p20.at 1)))).put 1 y115).at 0))
  refine Za rfl (by simp [ar117, as118, ar119, as120, ap121, c107]; rfl) ?_
  have ar122 := ZJ (k := .u64) (((p20.put 0 (IntKind.u64.wrap ((p20.at 0) + (p20.at 1)))).put 1 y115).put 1 (bits .xor .u64 (((p20.put 0 (IntKind.u64.wrap ((p20.at 0) + (p20.at 1)))).put 1 y115).at 1) (((p20.put 0 (IntKind.u64.wrap ((p20.at 0) + (p20.at 1)))).put 1 y115).at 0))) (i := 0) (by decide)
  have as123 := ZL (k := .u64) (((p20.put 0 (IntKind.u64.wrap ((p20.at 0) + (p20.at 1)))).put 1 y115).put 1 (bits .xor .u64 (((p20.put 0 (IntKind.u64.wrap ((p20.at 0) + (p20.at 1)))).put 1 y115).at 1) (((p20.put 0 (IntKind.u64.wrap ((p20.at 0) + (p20.at 1)))).put 1 y115).at 0))) (i := 0) (by decide)
  obtain ⟨y124, hy124, hr106⟩ := bs hr106
  have ehy124 := Zb3 hy124
  simp only [E67, R67, nf, nfs] at ehy124
  have ap125 := YH (k := .u64) (((p20.put 0 (IntKind.u64.wrap ((p20.at 0) + (p20.at 1)))).put 1 y115).put 1 (bits .xor .u64 (((p20.put 0 (IntKind.u64.wrap ((p20.at 0) + (p20.at 1)))).put 1 y115).at 1) (((p20.put 0 (IntKind.u64.wrap ((p20.at 0) + (p20.at 1)))).put 1 y115).at 0))) (i := 0) (by decide) (y124)
  refine Za rfl (by simp [ar122, as123, hO, hT67, ehy124, ap125, c107]; rfl) ?_
  have ar126 := ZJ (k := .u64) ((((p20.put 0 (IntKind.u64.wrap ((p20.at 0) + (p20.at 1)))).put 1 y115).put 1 (bits .xor .u64 (((p20.put 0 (IntKind.u64.wrap ((p20.at 0) + (p20.at 1)))).put 1 y115).at 1) (((p20.put 0 (IntKind.u64.wrap ((p20.at 0) + (p20.at 1)))).put 1 y115).at 0))).put 0 y124) (i := 2) (by decide)
  have as127 := ZL (k := .u64) ((((p20.put 0 (IntKind.u64.wrap ((p20.at 0) + (p20.at 1)))).put 1 y115).put 1 (bits .xor .u64 (((p20.put 0 (IntKind.u64.wrap ((p20.at 0) + (p20.at 1)))).put 1 y115).at 1) (((p20.put 0 (IntKind.u64.wrap ((p20.at 0) + (p20.at 1)))).put 1 y115).at 0))).put 0 y124) (i := 2) (by decide)
  have ar128 := ZJ (k := .u64) ((((p20.put 0 (IntKind.u64.wrap ((p20.at 0) + (p20.at 1)))).put 1 y115).put 1 (bits .xor .u64 (((p20.put 0 (IntKind.u64.wrap ((p20.at 0) + (p20.at 1)))).put 1 y115).at 1) (((p20.put 0 (IntKind.u64.wrap ((p20.at 0) + (p20.at 1)))).put 1 y115).at 0))).put 0 y124) (i := 3) (by decide)
  have as129 := ZL (k := .u64) ((((p20.put 0 (IntKind.u64.wrap ((p20.at 0) + (p20.at 1)))).put 1 y115).put 1 (bits .xor .u64 (((p20.put 0 (IntKind.u64.wrap ((p20.at 0) + (p20.at 1)))).put 1 y115).at 1) (((p20.put 0 (IntKind.u64.wrap ((p20.at 0) + (p20.at 1)))).put 1 y115).at 0))).put 0 y124) (i := 3) (by decide)
  obtain ⟨x130, hx130, hr106⟩ := bs hr106
  have qhx130 := Option.some.inj hx130
  have ap131 := (YH (k := .u64) ((((p20.put 0 (IntKind.u64.wrap ((p20.at 0) + (p20.at 1)))).put 1 y115).put 1 (bits .xor .u64 (((p20.put 0 (IntKind.u64.wrap ((p20.at 0) + (p20.at 1)))).put 1 y115).at 1) (((p20.put 0 (IntKind.u64.wrap ((p20.at 0) + (p20.at 1)))).put 1 y115).at 0))).put 0 y124) (i := 2) (by decide) (IntKind.u64.wrap ((((((p20.put 0 (IntKind.u64.wrap ((p20.at 0) + (p20.at 1)))).put 1 y115).put 1 (bits .xor .u64 (((p20.put 0 (IntKind.u64.wrap ((p20.at 0) + (p20.at 1)))).put 1 y115).at 1) (((p20.put 0 (IntKind.u64.wrap ((p20.at 0) + (p20.at 1)))).put 1 y115).at 0))).put 0 y124).at 2) + (((((p20.put 0 (IntKind.u64.wrap ((p20.at 0) + (p20.at 1)))).put 1 y115).put 1 (bits .xor .u64 (((p20.put 0 (IntKind.u64.wrap ((p20.at 0) + (p20.at 1)))).put 1 y115).at 1) (((p20.put 0 (IntKind.u64.wrap ((p20.at 0) + (p20.at 1)))).put 1 y115).at 0))).put 0 y124).at 3)))).trans (congrArg _ qhx130)
  refine Za rfl (by simp [ar126, as127, ar128, as129, ap131, c107]; rfl) ?_
  have ar132 := ZJ (k := .u64) (x130) (i := 3) (by decide)
  have as133 := ZL (k := .u64) (x130) (i := 3) (by decide)
  obtain ⟨y134, hy134, hr106⟩ := bs hr106
  have ehy134 := Zb3 hy134
  simp only [E67, R67, nf, nfs] at ehy134
  have ap135 := YH (k := .u64) (x130) (i := 3) (by decide) (y134)
  refine Za rfl (by simp [ar132, as133, hO, hT67, ehy134, ap135, c107]; rfl) ?_
  have ar136 := ZJ (k := .u64) (x130.put 3 y134) (i := 3) (by decide)
  have as137 := ZL (k := .u64) (x130.put 3 y134) (i := 3) (by decide)
  have ar138 := ZJ (k := .u64) (x130.put 3 y134) (i := 2) (by decide)
  have as139 := ZL (k := .u64) (x130.put 3 y134) (i := 2) (by decide)
  have ap140 := YH (k := .u64) (x130.put 3 y134) (i := 3) (by decide) (bits .xor .u64 ((x130.put 3 y134).at 3) ((x130.put 3 y134).at 2))
  refine Za rfl (by simp [ar136, as137, ar138, as139, ap140, c107]; rfl) ?_
  have ar141 := ZJ (k := .u64) ((x130.put 3 y134).put 3 (bits .xor .u64 ((x130.put 3 y134).at 3) ((x130.put 3 y134).at 2))) (i := 0) (by decide)
  have as142 := ZL (k := .u64) ((x130.put 3 y134).put 3 (bits .xor .u64 ((x130.put 3 y134).at 3) ((x130.put 3 y134).at 2))) (i := 0) (by decide)
  have ar143 := ZJ (k := .u64) ((x130.put 3 y134).put 3 (bits .xor .u64 ((x130.put 3 y134).at 3) ((x130.put 3 y134).at 2))) (i := 3) (by decide)
  have as144 := ZL (k := .u64) ((x130.put 3 y134).put 3 (bits .xor .u64 ((x130.put 3 y134).at 3) ((x130.put 3 y134).at 2))) (i := 3) (by decide)
  have ap145 := YH (k := .u64) ((x130.put 3 y134).put 3 (bits .xor .u64 ((x130.put 3 y134).at 3) ((x130.put 3 y134).at 2))) (i := 0) (by decide) (IntKind.u64.wrap ((((x130.put 3 y134).put 3 (bits .xor .u64 ((x130.put 3 y134).at 3) ((x130.put 3 y134).at 2))).at 0) + (((x130.put 3 y134).put 3 (bits .xor .u64 ((x130.put 3 y134).at 3) ((x130.put 3 y134).at 2))).at 3)))
  refine Za rfl (by simp [ar141, as142, ar143, as144, ap145, c107]; rfl) ?_
  have ar146 := ZJ (k := .u64) (((x130.put 3 y134).put 3 (bits .xor .u64 ((x130.put 3 y134).at 3) ((x130.put 3 y134).at 2))).put 0 (IntKind.u64.wrap ((((x130.put 3 y134).put 3 (bits .xor .u64 ((x130.put 3 y134).at 3) ((x130.put 3 y134).at 2))).at 0) + (((x130.put 3 y134).put 3 (bits .xor .u64 ((x130.put 3 y134).at 3) ((x130.put 3 y134).at 2))).at 3)))) (i := 3) (by decide)
  have as147 := ZL (k := .u64) (((x130.put 3 y134).put 3 (bits .xor .u64 ((x130.put 3 y134).at 3) ((x130.put 3 y134).at 2))).put 0 (IntKind.u64.wrap ((((x130.put 3 y134).put 3 (bits .xor .u64 ((x130.put 3 y134).at 3) ((x130.put 3 y134).at 2))).at 0) + (((x130.put 3 y134).put 3 (bits .xor .u64 ((x130.put 3 y134).at 3) ((x130.put 3 y134).at 2))).at 3)))) (i := 3) (by decide)
  obtain ⟨y148, hy148, hr106⟩ := bs hr106
  have ehy148 := Zb3 hy148
  simp only [E67, R67, nf, nfs] at ehy148
  have ap149 := YH (k := .u64) (((x130.put 3 y134).put 3 (bits .xor .u64 ((x130.put 3 y134).at 3) ((x130.put 3 y134).at 2))).put 0 (IntKind.u64.wrap ((((x130.put 3 y134).put 3 (bits .xor .u64 ((x130.put 3 y134).at 3) ((x130.put 3 y134).at 2))).at 0) + (((x130.put 3 y134).put 3 (bits .xor .u64 ((x130.put 3 y134).at 3) ((x130.put 3 y134).at 2))).at 3)))) (i := 3) (by decide) (y148)
  refine Za rfl (by simp [ar146, as147, hO, hT67, ehy148, ap149, c107]; rfl) ?_
  have ar150 := ZJ (k := .u64) ((((x130.put 3 y134).put 3 (bits .xor .u64 ((x130.put 3 y134).at 3) ((x130.put 3 y134).at 2))).put 0 (IntKind.u64.wrap ((((x130.put 3 y134).put 3 (bits .xor .u64 ((x130.put 3 y134).at 3) ((x130.put 3 y134).at 2))).at 0) + (((x130.put 3 y134).put 3 (bits .xor .u64 ((x130.put 3 y134).at 3) ((x130.put 3 y134).at 2))).at 3)))).put 3 y148) (i := 3) (by decide)
  have as151 := ZL (k := .u64) ((((x130.put 3 y134).put 3 (bits .xor .u64 ((x130.put 3 y134).at 3) ((x130.put 3 y134).at 2))).put 0 (IntKind.u64.wrap ((((x130.put 3 y134).put 3 (bits .xor .u64 ((x130.put 3 y134).at 3) ((x130.put 3 y134).at 2))).at 0) + (((x130.put 3 y134).put 3 (bits .xor .u64 ((x130.put 3 y134).at 3) ((x130.put 3 y134).at 2))).at 3)))).put 3 y148) (i := 3) (by decide)
  have ar152 := ZJ (k := .u64) ((((x130.put 3 y134).put 3 (bits .xor .u64 ((x130.put 3 y134).at 3) ((x130.put 3 y134).at 2))).put 0 (IntKind.u64.wrap ((((x130.put 3 y134).put 3 (bits .xor .u64 ((x130.put 3 y134).at 3) ((x130.put 3 y134).at 2))).at 0) + (((x130.put 3 y134).put 3 (bits .xor .u64 ((x130.put 3 y134).at 3) ((x130.put 3 y134).at 2))).at 3)))).put 3 y148) (i := 0) (by decide)
  have as153 := ZL (k := .u64) ((((x130.put 3 y134).put 3 (bits .xor .u64 ((x130.put 3 y134).at 3) ((x130.put 3 y134).at 2))).put 0 (IntKind.u64.wrap ((((x130.put 3 y134).put 3 (bits .xor .u64 ((x130.put 3 y134).at 3) ((x130.put 3 y134).at 2))).at 0) + (((x130.put 3 y134).put 3 (bits .xor .u64 ((x130.put 3 y134).at 3) ((x130.put 3 y134).at 2))).at 3)))).put 3 y148) (i := 0) (by decide)
  obtain ⟨x154, hx154, hr106⟩ := bs hr106
  have qhx154 := Option.some.inj hx154
  have ap155 := (YH (k := .u64) ((((x130.put 3 y134).put 3 (bits .xor .u64 ((x130.put 3 y134).at 3) ((x130.put 3 y134).at 2))).put 0 (IntKind.u64.wrap ((((x130.put 3 y134).put 3 (bits .xor .u64 ((x130.put 3 y134).at 3) ((x130.put 3 y134).at 2))).at 0) + (((x130.put 3 y134).put 3 (bits .xor .u64 ((x130.put 3 y134).at 3) ((x130.put 3 y134).at 2))).at 3)))).put 3 y148) (i := 3) (by decide) (bits .xor .u64 (((((x130.put 3 y134).put 3 (bits .xor .u64 ((x130.put 3 y134).at 3) ((x130.put 3 y134).at 2))).put 0 (IntKind.u64.wrap ((((x130.put 3 y134).put 3 (bits .xor .u64 ((x130.put 3 y134).at 3) ((x130.put 3 y134).at 2))).at 0) + (((x130.put 3 y134).put 3 (bits .xor .u64 ((x130.put 3 y134).at 3) ((x130.put 3 y134).at 2))).at 3)))).put 3 y148).at 3) (((((x130.put 3 y134).put 3 (bits .xor .u64 ((x130.put 3 y134).at 3) ((x130.put 3 y134).at 2))).put 0 (IntKind.u64.wrap ((((x130.put 3 y134).put 3 (bits .xor .u64 ((x130.put 3 y134).at 3) ((x130.put 3 y134).at 2))).at 0) + (((x130.put 3 y134).put 3 (bits .xor .u64 ((x130.put 3 y134).at 3) ((x130.put 3 y134).at 2))).at 3)))).put 3 y148).at 0))).trans (congrArg _ qhx154)
  refine Za rfl (by simp [ar150, as151, ar152, as153, ap155, c107]; rfl) ?_
  have ar156 := ZJ (k := .u64) (x154) (i := 2) (by decide)
  have as157 := ZL (k := .u64) (x154) (i := 2) (by decide)
  have ar158 := ZJ (k := .u64) (x154) (i := 1) (by decide)
  have as159 := ZL (k := .u64) (x154) (i := 1) (by decide)
  have ap160 := YH (k := .u64) (x154) (i := 2) (by decide) (IntKind.u64.wrap ((x154.at 2) + (x154.at 1)))
  refine Za rfl (by simp [ar156, as157, ar158, as159, ap160, c107]; rfl) ?_
  have ar161 := ZJ (k := .u64) (x154.put 2 (IntKind.u64.wrap ((x154.at 2) + (x154.at 1)))) (i := 1) (by decide)
  have as162 := ZL (k := .u64) (x154.put 2 (IntKind.u64.wrap ((x154.at 2) + (x154.at 1)))) (i := 1) (by decide)
  obtain ⟨y163, hy163, hr106⟩ := bs hr106
  have ehy163 := Zb3 hy163
  simp only [E67, R67, nf, nfs] at ehy163
  have ap164 := YH (k := .u64) (x154.put 2 (IntKind.u64.wrap ((x154.at 2) + (x154.at 1)))) (i := 1) (by decide) (y163)
  refine Za rfl (by simp [ar161, as162, hO, hT67, ehy163, ap164, c107]; rfl) ?_
  have ar165 := ZJ (k := .u64) ((x154.put 2 (IntKind.u64.wrap ((x154.at 2) + (x154.at 1)))).put 1 y163) (i := 1) (by decide)
  have as166 := ZL (k := .u64) ((x154.put 2 (IntKind.u64.wrap ((x154.at 2) + (x154.at 1)))).put 1 y163) (i := 1) (by decide)
  have ar167 := ZJ (k := .u64) ((x154.put 2 (IntKind.u64.wrap ((x154.at 2) + (x154.at 1)))).put 1 y163) (i := 2) (by decide)
  have as168 := ZL (k := .u64) ((x154.put 2 (IntKind.u64.wrap ((x154.at 2) + (x154.at 1)))).put 1 y163) (i := 2) (by decide)
  have ap169 := YH (k := .u64) ((x154.put 2 (IntKind.u64.wrap ((x154.at 2) + (x154.at 1)))).put 1 y163) (i := 1) (by decide) (bits .xor .u64 (((x154.put 2 (IntKind.u64.wrap ((x154.at 2) + (x154.at 1)))).put 1 y163).at 1) (((x154.put 2 (IntKind.u64.wrap ((x154.at 2) + (x154.at 1)))).put 1 y163).at 2))
  refine Za rfl (by simp [ar165, as166, ar167, as168, ap169, c107]; rfl) ?_
  have ar170 := ZJ (k := .u64) (((x154.put 2 (IntKind.u64.wrap ((x154.at 2) + (x154.at 1)))).put 1 y163).put 1 (bits .xor .u64 (((x154.put 2 (IntKind.u64.wrap ((x154.at 2) + (x154.at 1)))).put 1 y163).at 1) (((x154.put 2 (IntKind.u64.wrap ((x154.at 2) + (x154.at 1)))).put 1 y163).at 2))) (i := 2) (by decide)
  have as171 := ZL (k := .u64) (((x154.put 2 (IntKind.u64.wrap ((x154.at 2) + (x154.at 1)))).put 1 y163).put 1 (bits .xor .u64 (((x154.put 2 (IntKind.u64.wrap ((x154.at 2) + (x154.at 1)))).put 1 y163).at 1) (((x154.put 2 (IntKind.u64.wrap ((x154.at 2) + (x154.at 1)))).put 1 y163).at 2))) (i := 2) (by decide)
  obtain ⟨y172, hy172, hr106⟩ := bs hr106
  have ehy172 := Zb3 hy172
  simp only [E67, R67, nf, nfs] at ehy172
  have ap173 := YH (k := .u64) (((x154.put 2 (IntKind.u64.wrap ((x154.at 2) + (x154.at 1)))).put 1 y163).put 1 (bits .xor .u64 (((x154.put 2 (IntKind.u64.wrap ((x154.at 2) + (x154.at 1)))).put 1 y163).at 1) (((x154.put 2 (IntKind.u64.wrap ((x154.at 2) + (x154.at 1)))).put 1 y163).at 2))) (i := 2) (by decide) (y172)
  refine ZA rfl (by simp [ar170, as171, hO, hT67, ehy172, ap173, c107]; rfl) ?_
  simp only [pq, reduceCtorEq]
  refine ZA rfl (by simp [c107]; rfl) ?_
  obtain rfl := Option.some.inj hr106
  simp only [pq, reduceCtorEq]
  simp [und, List.replicate, Nat.add_assoc, c107]
 ·skip
  rw [if_neg] at hr106
  rotate_left
  ·simp [c107]
  refine Zg (by simp [bV, c107]) ?_
  refine Zo ?_
  obtain ⟨r174, q174, rfl⟩ := ms hr106
  simp only [pq, reduceCtorEq]
  rintro rfl
  try simp only [pq, reduceCtorEq]
  unfold Zdw at q174
  refine Za rfl (by simp [c107]; rfl) ?_
  refine Zx ?_
  obtain rfl := Option.some.inj q174
  simp [Zn, c107]
def kp59 : Keep := fun i => ⟨[], [], []⟩
theorem w59 {T : Tab} (hO : T.own = fun _ => []) (hT61 : T 61 = some G61) (a0 : (Arr 4)) (a1 : Int) (x : (Arr 4)) (hr : ZaO a0 a1 = some x) : ∃ kp fl n, ZI tt T G kp fl n Try.f59 (E59 (a0, a1)) = some (R59 (a0, a1) x) := by
 simp only [E59, R59]
 refine fnE (kp := kp59) (w := false) body59 (by simp) ?_
 unfold c59
 rw [Try.ntmps59]
 unfold ZaO at hr
 refine Za rfl (by simp []; rfl) ?_
 have ar2 := ZJ (k := .u64) (a0) (i := 3) (by decide)
 have as3 := ZL (k := .u64) (a0) (i := 3) (by decide)
 have ap4 := YH (k := .u64) (a0) (i := 3) (by decide) (bits .xor .u64 (a0.at 3) a1)
 refine Za rfl (by simp [ar2, as3, ap4]; rfl) ?_
 obtain ⟨y5, hy5, hr⟩ := bs hr
 have ehy5 := Zln hy5
 simp only [E61, R61, nf, nfs] at ehy5
 refine Za rfl (by simp [hO, hT61, ehy5]; rfl) ?_
 have ar6 := ZJ (k := .u64) (y5) (i := 0) (by decide)
 have as7 := ZL (k := .u64) (y5) (i := 0) (by decide)
 have ap8 := YH (k := .u64) (y5) (i := 0) (by decide) (bits .xor .u64 (y5.at 0) a1)
 refine Za rfl (by simp [ar6, as7, ap8]; rfl) ?_
 refine Za rfl (by simp []; rfl) ?_
 refine Zx ?_
 obtain rfl := Option.some.inj hr
 simp [Zn, ]
def kp60 : Keep := fun i => if i = 3 then ⟨[3, 6, 7, 8], [], []⟩ else ⟨[], [], []⟩
theorem w60 {T : Tab} (a0 : (List Int)) (x : Int) (hr : Zax a0 = some x) : ∃ kp fl n, ZI tt T G kp fl n Try.f60 (E60 a0) = some (R60 a0 x) := by
 simp only [E60, R60]
 refine fnE (kp := kp60) (w := false) body60 (by simp) ?_
 unfold c60
 rw [Try.ntmps60]
 unfold Zax at hr
 refine Za rfl (by simp []; rfl) ?_
 refine Za rfl (by simp []; rfl) ?_
 refine Zf ?_
 refine Za rfl (by simp []; rfl) ?_
 refine Zk ?_
 refine ZU (kq := ⟨[3, 6, 7, 8], [], []⟩) (H := fun (s : Int × Int) => match s with | (p7, p8) => (⟨(und 3 ++ ([.one (.v (.int .u64 p7))] ++ (und 2 ++ ([.one (.slice .no (Zi .u8 a0)), .one (.v (.int .i64 (a0.length : Int))), .one (.v (.int .i64 p8))] ++ (und 13)))) : List PV), ([] : Boxes)⟩ : ASt)) (by kernel_rfl) hr (by simp [und, List.replicate, ]) ?_
 rintro ⟨p7, p8⟩ x18r hr18
 simp only [Zcj] at hr18
 unfold b60_1
 simp only [und, List.replicate, List.cons_append, List.nil_append]
 refine Za rfl (by simp []; rfl) ?_
 by_cases c19 : p8 < (a0.length : Int)
 ·skip
  have c19N := c19
  try simp at c19N
  first | have c19M : (_ = _) = True := eq_true c19N | have c19M := c19N
  rw [if_pos] at hr18
  rotate_left
  ·simp [c19, c19M]
  refine Ze (by simp [bV, c19, c19M]) ?_
  refine Zh ?_
  refine Zk ?_
  obtain ⟨x20, hx20, hr18⟩ := bs hr18
  obtain ⟨hx20a, hx20b⟩ := Y8 hx20
  have hx20c := Zq hx20b
  refine Za rfl (by simp [hx20a, hx20b, hx20c, c19, c19M]; rfl) ?_
  obtain ⟨_, u21, hr18⟩ := bs hr18
  have u21_0 := Zp u21
  refine ZA rfl (by simp [u21_0, c19, c19M]; rfl) ?_
  simp only [pq, reduceCtorEq]
  refine ZA rfl (by simp [c19, c19M]; rfl) ?_
  obtain rfl := Option.some.inj hr18
  simp only [pq, reduceCtorEq]
  simp [und, List.replicate, Nat.add_assoc, c19, c19M]
 ·skip
  have c19N := c19
  try simp at c19N
  first | have c19M : (_ = _) = True := eq_true c19N | have c19M := c19N
  rw [if_neg] at hr18
  rotate_left
  ·simp [c19, c19M]
  refine Zg (by simp [bV, c19, c19M]) ?_
  refine Zo ?_
  obtain ⟨r22, q22, rfl⟩ := ms hr18
  simp only [pq, reduceCtorEq]
  rintro rfl
  try simp only [pq, reduceCtorEq]
  unfold Zen at q22
  refine Za rfl (by simp [c19, c19M]; rfl) ?_
  refine Zx ?_
  obtain rfl := Option.some.inj q22
  simp [Zn, c19, c19M, c19N]
def kp48 : Keep := fun i => if i = 4 then ⟨[1, 5, 6, 24, 25], [5], []⟩ else ⟨[], [], []⟩
theorem w48 {T : Tab} (hO : T.own = fun _ => []) (hT59 : T 59 = some G59) (hT60 : T 60 = some G60) (hT61 : T 61 = some G61) (a0 : (Arr 2)) (a1 : (List Int)) (x : Int) (hr : Zck a0 a1 = some x) : ∃ kp fl n, ZI tt T G kp fl n Try.f48 (E48 (a0, a1)) = some (R48 (a0, a1) x) := by
 simp only [E48, R48]
 refine fnE (kp := kp48) (w := false) body48 (by simp) ?_
 unfold c48
 rw [Try.ntmps48]
 unfold Zck at hr
 refine Za rfl (by simp [-Int.natCast_tdiv_eq_ediv, Nat.add_assoc, ]; rfl) ?_
 have ar21 := ZJ (k := .u64) (a0) (i := 0) (by decide)
 have as22 := ZL (k := .u64) (a0) (i := 0) (by decide)
 have ar23 := ZJ (k := .u64) (a0) (i := 1) (by decide)
 have as24 := ZL (k := .u64) (a0) (i := 1) (by decide)
 have ar25 := ZJ (k := .u64) (a0) (i := 0) (by decide)
 have as26 := ZL (k := .u64) (a0) (i := 0) (by decide)
 have ar27 := ZJ (k := .u64) (a0) (i := 1) (by decide)
 have as28 := ZL (k := .u64) (a0) (i := 1) (by decide)
 have ap29 := YH (k := .u64) (zA 4) (i := 0) (by decide) (bits .xor .u64 (a0.at 0) 8317987319222330741)
 have ap30 := YH (k := .u64) ((zA 4).put 0 (bits .xor .u64 (a0.at 0) 8317987319222330741)) (i := 1) (by decide) (bits .xor .u64 (a0.at 1) 7237128888997146477)
 have ap31 := YH (k := .u64) (((zA 4).put 0 (bits .xor .u64 (a0.at 0) 8317987319222330741)).put 1 (bits .xor .u64 (a0.at 1) 7237128888997146477)) (i := 2) (by decide) (bits .xor .u64 (a0.at 0) 7816392313619706465)
 have ap32 := YH (k := .u64) ((((zA 4).put 0 (bits .xor .u64 (a0.at 0) 8317987319222330741)).put 1 (bits .xor .u64 (a0.at 1) 7237128888997146477)).put 2 (bits .xor .u64 (a0.at 0) 7816392313619706465)) (i := 3) (by decide) (bits .xor .u64 (a0.at 1) 8387220255154660723)
 refine Za rfl (by simp [-Int.natCast_tdiv_eq_ediv, Nat.add_assoc, ar21, as22, ar23, as24, ar25, as26, ar27, as28, ap29, ap30, ap31, ap32]; rfl) ?_
 refine Za rfl (by simp [-Int.natCast_tdiv_eq_ediv, Nat.add_assoc, ]; rfl) ?_
 refine Zf ?_
 refine Za rfl (by simp [-Int.natCast_tdiv_eq_ediv, Nat.add_assoc, ]; rfl) ?_
 refine Zk ?_
 refine ZU (kq := ⟨[1, 5, 6, 24, 25], [5], []⟩) (H := fun (s : Int × (Arr 4)) => match s with | (p9, p10) => (⟨(und 1 ++ ([.one (.slice .no (Zi .u8 a1))] ++ (und 3 ++ ([.ptr 5 0 0 0 4, .one (.v (.int .i64 (IntKind.i64.wrap (((a1.length : Int)).tdiv 8))))] ++ (und 17 ++ ([.one (.v (.int .i64 (IntKind.i64.wrap (((a1.length : Int)).tdiv 8)))), .one (.v (.int .i64 p9))] ++ (und 43)))))) : List PV), ([(5, ⟨0, 4, [arC .u64 p10], false, false⟩)] : Boxes)⟩ : ASt)) (by kernel_rfl) hr (by simp [-Int.natCast_tdiv_eq_ediv, Nat.add_assoc, und, List.replicate, ]) ?_
 rintro ⟨p9, p10⟩ x42r hr42
 simp only [ZcH] at hr42
 unfold b48_1
 simp only [und, List.replicate, List.cons_append, List.nil_append]
 refine Za rfl (by simp [-Int.natCast_tdiv_eq_ediv, Nat.add_assoc, ]; rfl) ?_
 by_cases c43 : p9 < IntKind.i64.wrap (((a1.length : Int)).tdiv 8)
 ·skip
  have c43N := c43
  try simp at c43N
  first | have c43M : (_ = _) = True := eq_true c43N | have c43M := c43N
  rw [if_pos] at hr42
  rotate_left
  ·simp [-Int.natCast_tdiv_eq_ediv, Nat.add_assoc, c43, c43M]
  refine Ze (by simp [-Int.natCast_tdiv_eq_ediv, Nat.add_assoc, bV, c43, c43M]) ?_
  refine Zh ?_
  refine Zk ?_
  refine Za rfl (by simp [-Int.natCast_tdiv_eq_ediv, Nat.add_assoc, c43, c43M]; rfl) ?_
  obtain ⟨_, u44, hr42⟩ := bs hr42
  obtain ⟨u44_0, u44_1, u44_2⟩ := Zp u44
  have sf45 : (IntKind.i64.wrap (8 * p9)).toNat ≤ (IntKind.i64.wrap ((IntKind.i64.wrap (8 * p9)) + 8)).toNat := by omega
  have sf46 : (IntKind.i64.wrap ((IntKind.i64.wrap (8 * p9)) + 8)).toNat ≤ a1.length := by omega
  have sf47 : 0 ≤ IntKind.i64.wrap ((IntKind.i64.wrap (8 * p9)) + 8) := by omega
  obtain ⟨y48, hy48, hr42⟩ := bs hr42
  have ehy48 := Zlp hy48
  simp only [E60, R60, nf, nfs] at ehy48
  obtain ⟨y49, hy49, hr42⟩ := bs hr42
  have ehy49 := Zlo hy49
  simp only [E59, R59, nf, nfs] at ehy49
  refine Zct rfl (by simp [-Int.natCast_tdiv_eq_ediv, Nat.add_assoc, u44_0, u44_1, u44_2, sf45, sf46, sf47, hO, hT60, ehy48, hT59, ehy49, c43, c43M]; first | exact ⟨rfl, rfl⟩ | rfl) (by kernel_rfl) ?_
  simp only [pq, reduceCtorEq]
  refine ZA rfl (by simp [-Int.natCast_tdiv_eq_ediv, Nat.add_assoc, c43, c43M]; rfl) ?_
  obtain rfl := Option.some.inj hr42
  simp only [pq, reduceCtorEq]
  simp [-Int.natCast_tdiv_eq_ediv, Nat.add_assoc, und, List.replicate, Nat.add_assoc, c43, c43M]
 ·skip
  have c43N := c43
  try simp at c43N
  first | have c43M : (_ = _) = True := eq_true c43N | have c43M := c43N
  rw [if_neg] at hr42
  rotate_left
  ·simp [-Int.natCast_tdiv_eq_ediv, Nat.add_assoc, c43, c43M]
  refine Zg (by simp [-Int.natCast_tdiv_eq_ediv, Nat.add_assoc, bV, c43, c43M]) ?_
  refine Zo ?_
  obtain ⟨r50, q50, rfl⟩ := ms hr42
  simp only [pq, reduceCtorEq]
  rintro rfl
  try simp only [pq, reduceCtorEq]
  unfold ZeD at q50
  obtain ⟨_, u51, q50⟩ := bs q50
  obtain ⟨u51_0, u51_1⟩ := Zp u51
  have sf52 : (IntKind.i64.wrap (8 * (IntKind.i64.wrap (((a1.length : Int)).tdiv 8)))).toNat ≤ a1.length := by omega
  obtain ⟨y53, hy53, q50⟩ := bs q50
  have ehy53 := Zlp hy53
  simp only [E60, R60, nf, nfs] at ehy53
  obtain ⟨y54, hy54, q50⟩ := bs q50
  have ehy54 := Zlo hy54
  simp only [E59, R59, nf, nfs] at ehy54
  refine Zt rfl (by simp [-Int.natCast_tdiv_eq_ediv, Nat.add_assoc, u51_0, u51_1, sf52, hO, hT60, ehy53, hT59, ehy54, c43, c43M]; first | exact ⟨rfl, rfl⟩ | rfl) (by kernel_rfl) ?_
  have ar55 := ZJ (k := .u64) (y54) (i := 2) (by decide)
  have as56 := ZL (k := .u64) (y54) (i := 2) (by decide)
  have ap57 := YH (k := .u64) (y54) (i := 2) (by decide) (bits .xor .u64 (y54.at 2) 255)
  refine Za rfl (by simp [-Int.natCast_tdiv_eq_ediv, Nat.add_assoc, ar55, as56, ap57, c43, c43M]; rfl) ?_
  obtain ⟨y58, hy58, q50⟩ := bs q50
  have ehy58 := Zln hy58
  simp only [E61, R61, nf, nfs] at ehy58
  refine Za rfl (by simp [-Int.natCast_tdiv_eq_ediv, Nat.add_assoc, hO, hT61, ehy58, c43, c43M]; rfl) ?_
  have ar59 := ZJ (k := .u64) (y58) (i := 0) (by decide)
  have as60 := ZL (k := .u64) (y58) (i := 0) (by decide)
  have ar61 := ZJ (k := .u64) (y58) (i := 1) (by decide)
  have as62 := ZL (k := .u64) (y58) (i := 1) (by decide)
  have ar63 := ZJ (k := .u64) (y58) (i := 2) (by decide)
  have as64 := ZL (k := .u64) (y58) (i := 2) (by decide)
  have ar65 := ZJ (k := .u64) (y58) (i := 3) (by decide)
  have as66 := ZL (k := .u64) (y58) (i := 3) (by decide)
  refine Za rfl (by simp [-Int.natCast_tdiv_eq_ediv, Nat.add_assoc, ar59, as60, ar61, as62, ar63, as64, ar65, as66, c43, c43M]; rfl) ?_
  refine Zx ?_
  obtain rfl := Option.some.inj q50
  simp [-Int.natCast_tdiv_eq_ediv, Nat.add_assoc, Zn, ar59, as60, ar61, as62, ar63, as64, ar65, as66, c43, c43M, c43N]
theorem v76 : ZS Try.prog G 76 G76 := by
 refine Zix (k := .u32) (k' := .i64) (g := fun x => (Lib.bitLen x.toNat : Int)) (ok := fun x => 0 ≤ x ∧ x ≤ 4294967295) Try.func76 (by kernel_rfl) (by kernel_rfl) G76 (fun ps r hF => ?_) (fun x w hx => bl76 x w hx.1 hx.2)
 obtain ⟨x, rfl, h⟩ := Zgs hF
 obtain ⟨y, hy, rfl⟩ := Option.map_eq_some_iff.1 h
 unfold ZcU at hy
 obtain ⟨_, u1, hy⟩ := bs hy
 obtain rfl := Option.some.inj hy
 exact ⟨x, Zp u1, rfl, rfl⟩
theorem v77 : ZS Try.prog G 77 G77 := by
 refine Zix (k := .u64) (k' := .i64) (g := fun x => (Lib.bitLen x.toNat : Int)) (ok := fun x => 0 ≤ x ∧ x ≤ 18446744073709551615) Try.func77 (by kernel_rfl) (by kernel_rfl) G77 (fun ps r hF => ?_) (fun x w hx => bl77 x w hx.1 hx.2)
 obtain ⟨x, rfl, h⟩ := Zgs hF
 obtain ⟨y, hy, rfl⟩ := Option.map_eq_some_iff.1 h
 unfold Zbo at hy
 obtain ⟨_, u1, hy⟩ := bs hy
 obtain rfl := Option.some.inj hy
 exact ⟨x, Zp u1, rfl, rfl⟩
def kp63 : Keep := fun i => ⟨[], [], []⟩
theorem w63 {T : Tab} (hO : T.own = fun _ => []) (hT77 : T 77 = some G77) (a0 : Int) (x : Int) (hr : XV a0 = some x) : ∃ kp fl n, ZI tt T G kp fl n Try.f63 (E63 a0) = some (R63 a0 x) := by
 simp only [E63, R63]
 refine fnE (kp := kp63) (w := false) body63 (by simp) ?_
 unfold c63
 rw [Try.ntmps63]
 unfold XV at hr
 refine Za rfl (by simp []; rfl) ?_
 refine Zg (by simp [bV]) ?_
 refine Zh ?_
 obtain ⟨y2, hy2, hr⟩ := bs hr
 have ehy2 := Zn3 hy2
 simp only [E77, R77, nf, nfs] at ehy2
 refine Za rfl (by simp [hO, hT77, ehy2]; rfl) ?_
 refine Zx ?_
 obtain rfl := Option.some.inj hr
 simp [Zn, hO, hT77, ehy2]
def kp79 : Keep := fun i => ⟨[], [], []⟩
theorem w79 {T : Tab} (hO : T.own = fun _ => []) (hT63 : T 63 = some G63) (a0 : Int) (x : Int) (hr : Xg a0 = some x) : ∃ kp fl n, ZI tt T G kp fl n Try.f79 (E79 a0) = some (R79 a0 x) := by
 simp only [E79, R79]
 refine fnE (kp := kp79) (w := false) body79 (by simp) ?_
 unfold c79
 rw [Try.ntmps79]
 unfold Xg at hr
 refine Za rfl (by simp []; rfl) ?_
 obtain ⟨y3, hy3, hr⟩ := bs hr
 have ehy3 := Zlq hy3
 simp only [E63, R63, nf, nfs] at ehy3
 obtain ⟨_, u4, hr⟩ := bs hr
 have u4_0 := Zp u4
 refine Za rfl (by simp [hO, hT63, ehy3, u4_0]; rfl) ?_
 refine Zx ?_
 obtain rfl := Option.some.inj hr
 simp [Zn, hO, hT63, ehy3, u4_0]
def kp80 : Keep := fun i => ⟨[], [], []⟩
theorem w80 {T : Tab} (a0 : Int) (x : Int × Int) (hr : Xs a0 = some x) : ∃ kp fl n, ZI tt T G kp fl n Try.f80 (E80 a0) = some (R80 a0 x) := by
 simp only [E80, R80]
 refine fnE (kp := kp80) (w := false) body80 (by simp) ?_
 unfold c80
 rw [Try.ntmps80]
 unfold Xs at hr
 refine Za rfl (by simp []; rfl) ?_
 refine Zt rfl (by simp []; first | exact ⟨rfl, rfl⟩ | rfl) (by kernel_rfl) ?_
 refine Zt rfl (by simp []; first | exact ⟨rfl, rfl⟩ | rfl) (by kernel_rfl) ?_
 refine Zt rfl (by simp []; first | exact ⟨rfl, rfl⟩ | rfl) (by kernel_rfl) ?_
 refine Za rfl (by simp []; rfl) ?_
 refine Zx ?_
 obtain rfl := Option.some.inj hr
 simp [Zn, ]
def kp83 : Keep := fun i => ⟨[], [], []⟩
theorem w83 {T : Tab} (hO : T.own = fun _ => []) (hT39 : T 39 = some G39) (a0 : (List Int)) (a1 : Int) (a2 : Int) (a3 : Int) (x : Int × Int × Int) (hr : Yb a0 a1 a2 a3 = some x) : ∃ kp fl n, ZI tt T G kp fl n Try.f83 (E83 (a0, a1, a2, a3)) = some (R83 (a0, a1, a2, a3) x) := by
 simp only [E83, R83]
 refine fnE (kp := kp83) (w := false) body83 (by simp) ?_
 unfold c83
 rw [Try.ntmps83]
 unfold Yb at hr
 refine Za rfl (by simp []; rfl) ?_
 refine Zf ?_
 obtain ⟨x4, hx4, hr⟩ := bs hr
 obtain ⟨hx4a, hx4b⟩ := Y8 hx4
 have hx4c := Zq hx4b
 obtain ⟨x5, hx5, hr⟩ := bs hr
 obtain ⟨hx5a, hx5b⟩ := Y8 hx5
 have hx5c := Zq hx5b
 obtain ⟨y6, hy6, hr⟩ := bs hr
 have ehy6 := ZaE hy6
 simp only [E39, R39, nf, nfs] at ehy6
 refine Zt rfl (by simp [hx4a, hx4b, hx4c, hx5a, hx5b, hx5c, hO, hT39, ehy6]; first | exact ⟨rfl, rfl⟩ | rfl) (by kernel_rfl) ?_
 by_cases c7 : y6 = true
 ·skip
  rw [if_pos c7] at hr
  refine Ze (by simp [bV, c7]) ?_
  refine Zf ?_
  refine Za rfl (by simp [c7]; rfl) ?_
  refine Zf ?_
  refine Za rfl (by simp [c7]; rfl) ?_
  refine Zl ?_
  obtain rfl := Option.some.inj hr
  simp [Zn, c7]
 ·skip
  rw [if_neg c7] at hr
  refine Zg (by simp [bV, c7]) ?_
  refine Zh ?_
  refine Za rfl (by simp [c7]; rfl) ?_
  refine Zx ?_
  obtain rfl := Option.some.inj hr
  simp [Zn, c7]
def kp82 : Keep := fun i => ⟨[], [], []⟩
theorem w82 {T : Tab} (hO : T.own = fun _ => []) (hT83 : T 83 = some G83) (a0 : (List Int)) (a1 : Int) (a2 : Int) (a3 : Int) (a4 : Int) (x : Int × Int) (hr : Yr a0 a1 a2 a3 a4 = some x) : ∃ kp fl n, ZI tt T G kp fl n Try.f82 (E82 (a0, a1, a2, a3, a4)) = some (R82 (a0, a1, a2, a3, a4) x) := by
 simp only [E82, R82]
 refine fnE (kp := kp82) (w := false) body82 (by simp) ?_
 unfold c82
 rw [Try.ntmps82]
 unfold Yr at hr
 refine Za rfl (by simp []; rfl) ?_
 obtain ⟨y4, hy4, hr⟩ := bs hr
 have ehy4 := ZiP hy4
 simp only [E83, R83, nf, nfs] at ehy4
 refine Za rfl (by simp [hO, hT83, ehy4]; rfl) ?_
 obtain ⟨y5, hy5, hr⟩ := bs hr
 have ehy5 := ZiP hy5
 simp only [E83, R83, nf, nfs] at ehy5
 refine Za rfl (by simp [hO, hT83, ehy5]; rfl) ?_
 obtain ⟨y6, hy6, hr⟩ := bs hr
 have ehy6 := ZiP hy6
 simp only [E83, R83, nf, nfs] at ehy6
 refine Za rfl (by simp [hO, hT83, ehy6]; rfl) ?_
 refine Za rfl (by simp []; rfl) ?_
 refine Zx ?_
 obtain rfl := Option.some.inj hr
 simp [Zn, ]
def kp81 : Keep := fun i => ⟨[], [], []⟩
theorem w81 {T : Tab} (hO : T.own = fun _ => []) (hT82 : T 82 = some G82) (a0 : (List Int)) (a1 : Int) (a2 : Int) (x : Int × Int) (hr : ZO a0 a1 a2 = some x) : ∃ kp fl n, ZI tt T G kp fl n Try.f81 (E81 (a0, a1, a2)) = some (R81 (a0, a1, a2) x) := by
 simp only [E81, R81]
 refine fnE (kp := kp81) (w := false) body81 (by simp) ?_
 unfold c81
 rw [Try.ntmps81]
 unfold ZO at hr
 refine Za rfl (by simp []; rfl) ?_
 obtain ⟨y2, hy2, hr⟩ := bs hr
 have ehy2 := Zlr hy2
 simp only [E82, R82, nf, nfs] at ehy2
 refine Za rfl (by simp [hO, hT82, ehy2]; rfl) ?_
 refine Zx ?_
 obtain rfl := Option.some.inj hr
 simp [Zn, hO, hT82, ehy2]
def kp71 : Keep := fun i => if i = 1000012 then ⟨[9, 11], [9], []⟩ else if i = 1000011 then ⟨[0, 9, 10, 11, 12], [9], []⟩ else ⟨[], [], []⟩
theorem w71 {T : Tab} (hO : T.own = fun _ => []) (hT81 : T 81 = some G81) (hT82 : T 82 = some G82) (a0 : (List Int)) (a1 : Int) (a2 : Int) (x : Int × Int) (hr : Yl a0 a1 a2 = some x) : ∃ kp fl n, ZI tt T G kp fl n Try.f71 (E71 (a0, a1, a2)) = some (R71 (a0, a1, a2) x) := by
 simp only [E71, R71]
 refine fnE (kp := kp71) (w := false) body71 (by simp) ?_
 unfold c71
 rw [Try.ntmps71]
 unfold Yl at hr
 refine Za rfl (by simp [-Int.natCast_tdiv_eq_ediv, Nat.add_assoc, ]; rfl) ?_
 refine Za rfl (by simp [-Int.natCast_tdiv_eq_ediv, Nat.add_assoc, ]; rfl) ?_
 refine Za rfl (by simp [-Int.natCast_tdiv_eq_ediv, Nat.add_assoc, ]; rfl) ?_
 refine Za rfl (by simp [-Int.natCast_tdiv_eq_ediv, Nat.add_assoc, ]; rfl) ?_
 refine Za rfl (by simp [-Int.natCast_tdiv_eq_ediv, Nat.add_assoc, ]; rfl) ?_
 refine Za rfl (by simp [-Int.natCast_tdiv_eq_ediv, Nat.add_assoc, ]; rfl) ?_
 refine Zf ?_
 refine Za rfl (by simp [-Int.natCast_tdiv_eq_ediv, Nat.add_assoc, ]; rfl) ?_
 refine Za2 hr (fun (s : Int × Int) => match s with | (p9, p10) => (⟨(und 9 ++ ([.ptr 9 0 0 0 1] ++ (und 1 ++ ([.one (.v (.int .i64 p9))] ++ (und 45)))) : List PV), ([(9, ⟨0, 1, [[.v (.int .i64 p10)]], false, false⟩)] : Boxes)⟩ : ASt)) (fun (s : Int × Int) => match s with | (p9, p10) => Yp p9 p10) ?_ ?_
 ·skip
  rintro ⟨p9, p10⟩ hk33
  change Yp p9 p10 = _ at hk33
  simp only [und, List.replicate, List.cons_append, List.nil_append]
  unfold Yp at hk33
  refine Y6 rfl (kq := ⟨[9, 11], [9], []⟩) rfl (by simp [-Int.natCast_tdiv_eq_ediv, Nat.add_assoc, Ys, ]; rfl) (by simp [-Int.natCast_tdiv_eq_ediv, Nat.add_assoc, ]; rfl) ?_
  refine YT ?_
  refine Za rfl (by simp [-Int.natCast_tdiv_eq_ediv, Nat.add_assoc, ]; rfl) ?_
  by_cases c34 : p10 = 0
  ·skip
   rw [if_pos c34] at hk33
   refine Yo (by simp [-Int.natCast_tdiv_eq_ediv, Nat.add_assoc, bV, eq_true c34]) ?_
   refine Za rfl (by simp [-Int.natCast_tdiv_eq_ediv, Nat.add_assoc, eq_true c34]; rfl) ?_
   refine Zx ?_
   obtain rfl := Option.some.inj hk33
   simp [-Int.natCast_tdiv_eq_ediv, Nat.add_assoc, Zn, eq_true c34]
  ·skip
   rw [if_neg c34] at hk33
   refine YI (by simp [-Int.natCast_tdiv_eq_ediv, Nat.add_assoc, bV, c34]) ?_
   refine Za rfl (by simp [-Int.natCast_tdiv_eq_ediv, Nat.add_assoc, c34]; rfl) ?_
   by_cases c35 : p10 = 12
   ·skip
    rw [if_pos c35] at hk33
    refine Yo (by simp [-Int.natCast_tdiv_eq_ediv, Nat.add_assoc, bV, c34, eq_true c35]) ?_
    refine Za rfl (by simp [-Int.natCast_tdiv_eq_ediv, Nat.add_assoc, c34, eq_true c35]; rfl) ?_
    refine Zx ?_
    obtain rfl := Option.some.inj hk33
    simp [-Int.natCast_tdiv_eq_ediv, Nat.add_assoc, Zn, c34, eq_true c35]
   ·skip
    rw [if_neg c35] at hk33
    refine YI (by simp [-Int.natCast_tdiv_eq_ediv, Nat.add_assoc, bV, c34, c35]) ?_
    refine Za rfl (by simp [-Int.natCast_tdiv_eq_ediv, Nat.add_assoc, c34, c35]; rfl) ?_
    refine Zx ?_
    obtain rfl := Option.some.inj hk33
    simp [-Int.natCast_tdiv_eq_ediv, Nat.add_assoc, Zn, c34, c35]
 ·skip
  intro J33
  by_cases c36 : 8 ≤ IntKind.i64.wrap (a2 - a1)
  ·skip
   rw [if_pos c36] at hr
   refine Ze (by simp [-Int.natCast_tdiv_eq_ediv, Nat.add_assoc, bV, c36]) ?_
   refine Zf ?_
   refine Zf ?_
   refine Za rfl (by simp [-Int.natCast_tdiv_eq_ediv, Nat.add_assoc, c36]; rfl) ?_
   refine Za2 hr (fun (s : Int × Int × Int × Int) => match s with | (p14, p15, p16, p17) => (⟨([.one (.slice .no (Zi .u64 a0))] ++ (und 8 ++ ([.ptr 9 0 0 0 1, .one (.v (.int .i64 p14)), .one (.v (.int .i64 p15)), .one (.v (.int .i64 p16))] ++ (und 44))) : List PV), ([(9, ⟨0, 1, [[.v (.int .i64 p17)]], false, false⟩)] : Boxes)⟩ : ASt)) (fun (s : Int × Int × Int × Int) => match s with | (p14, p15, p16, p17) => Yq a0 p14 p15 p16 p17) ?_ ?_
   ·skip
    rintro ⟨p14, p15, p16, p17⟩ hk41
    change Yq a0 p14 p15 p16 p17 = _ at hk41
    simp only [und, List.replicate, List.cons_append, List.nil_append]
    unfold Yq at hk41
    obtain ⟨y42, hy42, hk41⟩ := bs hk41
    have ehy42 := Zlr hy42
    simp only [E82, R82, nf, nfs] at ehy42
    refine Y6 rfl (kq := ⟨[0, 9, 10, 11, 12], [9], []⟩) rfl (by simp [-Int.natCast_tdiv_eq_ediv, Nat.add_assoc, Ys, hO, hT82, ehy42, c36]; rfl) (by simp [-Int.natCast_tdiv_eq_ediv, Nat.add_assoc, hO, hT82, ehy42, c36]; rfl) ?_
    exact ZK (key := 1000012) (kq := ⟨[9, 11], [9], []⟩) rfl rfl rfl (by simp [-Int.natCast_tdiv_eq_ediv, Nat.add_assoc, und, List.replicate, c36]) (J33 (y42.1, y42.2) hk41)
   ·skip
    intro J41
    by_cases c43 : 50 ≤ IntKind.i64.wrap (a2 - a1)
    ·skip
     rw [if_pos c43] at hr
     refine Ze (by simp [-Int.natCast_tdiv_eq_ediv, Nat.add_assoc, bV, c36, c43]) ?_
     refine Zf ?_
     obtain ⟨y44, hy44, hr⟩ := bs hr
     have ehy44 := ZiQ hy44
     simp only [E81, R81, nf, nfs] at ehy44
     refine Za rfl (by simp [-Int.natCast_tdiv_eq_ediv, Nat.add_assoc, hO, hT81, ehy44, c36, c43]; rfl) ?_
     refine Zf ?_
     obtain ⟨y45, hy45, hr⟩ := bs hr
     have ehy45 := ZiQ hy45
     simp only [E81, R81, nf, nfs] at ehy45
     refine Za rfl (by simp [-Int.natCast_tdiv_eq_ediv, Nat.add_assoc, hO, hT81, ehy45, c36, c43]; rfl) ?_
     obtain ⟨y46, hy46, hr⟩ := bs hr
     have ehy46 := ZiQ hy46
     simp only [E81, R81, nf, nfs] at ehy46
     refine Za rfl (by simp [-Int.natCast_tdiv_eq_ediv, Nat.add_assoc, hO, hT81, ehy46, c36, c43]; rfl) ?_
     exact ZK (key := 1000011) (kq := ⟨[0, 9, 10, 11, 12], [9], []⟩) rfl rfl rfl (by simp [-Int.natCast_tdiv_eq_ediv, Nat.add_assoc, und, List.replicate, c36, c43]) (J41 (y44.1, y45.1, y46.1, y46.2) hr)
    ·skip
     rw [if_neg c43] at hr
     refine Zg (by simp [-Int.natCast_tdiv_eq_ediv, Nat.add_assoc, bV, c36, c43]) ?_
     refine Zh ?_
     exact ZK (key := 1000011) (kq := ⟨[0, 9, 10, 11, 12], [9], []⟩) rfl rfl rfl (by simp [-Int.natCast_tdiv_eq_ediv, Nat.add_assoc, und, List.replicate, c36, c43]) (J41 (IntKind.i64.wrap (a1 + (IntKind.i64.wrap (IntKind.i64.wrap ((IntKind.i64.wrap (a2 - a1)).tdiv 4)))), IntKind.i64.wrap (a1 + (IntKind.i64.wrap ((IntKind.i64.wrap ((IntKind.i64.wrap (a2 - a1)).tdiv 4)) * 2))), IntKind.i64.wrap (a1 + (IntKind.i64.wrap ((IntKind.i64.wrap ((IntKind.i64.wrap (a2 - a1)).tdiv 4)) * 3))), 0) hr)
  ·skip
   rw [if_neg c36] at hr
   refine Zg (by simp [-Int.natCast_tdiv_eq_ediv, Nat.add_assoc, bV, c36]) ?_
   refine Zh ?_
   exact ZK (key := 1000012) (kq := ⟨[9, 11], [9], []⟩) rfl rfl rfl (by simp [-Int.natCast_tdiv_eq_ediv, Nat.add_assoc, und, List.replicate, c36]) (J33 (IntKind.i64.wrap (a1 + (IntKind.i64.wrap ((IntKind.i64.wrap ((IntKind.i64.wrap (a2 - a1)).tdiv 4)) * 2))), 0) hr)
end Go.Proofs.Ytmjbklblgpnagaa
