import Derived.Test.YtmjbklblgpnagaaLfK
import Derived.Test.YtmjbklblgpnagaaCode
import Derived.Test.YtmjbklblgpnagaaBl
namespace Go.Proofs.Ytmjbklblgpnagaa
open Go.RowKit
open Go.Av
open Go.Lc
set_option maxRecDepth 100000
set_option linter.unusedSimpArgs false
set_option linter.unusedVariables false
set_option maxHeartbeats 4000000
variable {G : Glob}
def kp66 : Keep := fun i => ⟨[], [], []⟩
theorem w66 {T : Tab} (hO : T.own = fun _ => []) (hT67 : T 67 = some G67) (a0 : (Arr 4)) (x : (Arr 4)) (hr : Xu a0 = some x) : ∃ kp fl n, ZI tt T G kp fl n Try.f66 (E66 a0) = some (R66 a0 x) := by
 simp only [E66, R66]
 refine fnE (kp := kp66) (w := false) body66 (by simp) ?_
 unfold c66
 rw [Try.ntmps66]
 unfold Xu at hr
 refine Za rfl (by simp []; rfl) ?_
 have ar9 := ZJ (k := .u64) (a0) (i := 0) (by decide)
 have as10 := ZL (k := .u64) (a0) (i := 0) (by decide)
 have ar11 := ZJ (k := .u64) (a0) (i := 1) (by decide)
 have as12 := ZL (k := .u64) (a0) (i := 1) (by decide)
 have ap13 := YH (k := .u64) (a0) (i := 0) (by decide) (IntKind.u64.wrap ((a0.at 0) + (a0.at 1)))
 refine Za rfl (by simp [ar9, as10, ar11, as12, ap13]; rfl) ?_
 have ar14 := ZJ (k := .u64) (a0.put 0 (IntKind.u64.wrap ((a0.at 0) + (a0.at 1)))) (i := 1) (by decide)
 have as15 := ZL (k := .u64) (a0.put 0 (IntKind.u64.wrap ((a0.at 0) + (a0.at 1)))) (i := 1) (by decide)
 obtain ⟨y16, hy16, hr⟩ := bs hr
 have ehy16 := Zb3 hy16
 simp only [E67, R67, nf, nfs] at ehy16
 have ar17 := ZJ (k := .u64) (a0.put 0 (IntKind.u64.wrap ((a0.at 0) + (a0.at 1)))) (i := 0) (by decide)
 have as18 := ZL (k := .u64) (a0.put 0 (IntKind.u64.wrap ((a0.at 0) + (a0.at 1)))) (i := 0) (by decide)
 have ap19 := YH (k := .u64) (a0.put 0 (IntKind.u64.wrap ((a0.at 0) + (a0.at 1)))) (i := 1) (by decide) (bits .xor .u64 y16 ((a0.put 0 (IntKind.u64.wrap ((a0.at 0) + (a0.at 1)))).at 0))
 refine Zt rfl (by simp [ar14, as15, hO, hT67, ehy16, ar17, as18, ap19]; first | exact ⟨rfl, rfl⟩ | rfl) (by kernel_rfl) ?_
 have ar20 := ZJ (k := .u64) ((a0.put 0 (IntKind.u64.wrap ((a0.at 0) + (a0.at 1)))).put 1 (bits .xor .u64 y16 ((a0.put 0 (IntKind.u64.wrap ((a0.at 0) + (a0.at 1)))).at 0))) (i := 0) (by decide)
 have as21 := ZL (k := .u64) ((a0.put 0 (IntKind.u64.wrap ((a0.at 0) + (a0.at 1)))).put 1 (bits .xor .u64 y16 ((a0.put 0 (IntKind.u64.wrap ((a0.at 0) + (a0.at 1)))).at 0))) (i := 0) (by decide)
 obtain ⟨y22, hy22, hr⟩ := bs hr
 have ehy22 := Zb3 hy22
 simp only [E67, R67, nf, nfs] at ehy22
 have ap23 := YH (k := .u64) ((a0.put 0 (IntKind.u64.wrap ((a0.at 0) + (a0.at 1)))).put 1 (bits .xor .u64 y16 ((a0.put 0 (IntKind.u64.wrap ((a0.at 0) + (a0.at 1)))).at 0))) (i := 0) (by decide) (y22)
 refine Za rfl (by simp [ar20, as21, hO, hT67, ehy22, ap23]; rfl) ?_
 have ar24 := ZJ (k := .u64) (((a0.put 0 (IntKind.u64.wrap ((a0.at 0) + (a0.at 1)))).put 1 (bits .xor .u64 y16 ((a0.put 0 (IntKind.u64.wrap ((a0.at 0) + (a0.at 1)))).at 0))).put 0 y22) (i := 2) (by decide)
 have as25 := ZL (k := .u64) (((a0.put 0 (IntKind.u64.wrap ((a0.at 0) + (a0.at 1)))).put 1 (bits .xor .u64 y16 ((a0.put 0 (IntKind.u64.wrap ((a0.at 0) + (a0.at 1)))).at 0))).put 0 y22) (i := 2) (by decide)
 have ar26 := ZJ (k := .u64) (((a0.put 0 (IntKind.u64.wrap ((a0.at 0) + (a0.at 1)))).put 1 (bits .xor .u64 y16 ((a0.put 0 (IntKind.u64.wrap ((a0.at 0) + (a0.at 1)))).at 0))).put 0 y22) (i := 3) (by decide)
 have as27 := ZL (k := .u64) (((a0.put 0 (IntKind.u64.wrap ((a0.at 0) + (a0.at 1)))).put 1 (bits .xor .u64 y16 ((a0.put 0 (IntKind.u64.wrap ((a0.at 0) + (a0.at 1)))).at 0))).put 0 y22) (i := 3) (by decide)
 have ap28 := YH (k := .u64) (((a0.put 0 (IntKind.u64.wrap ((a0.at 0) + (a0.at 1)))).put 1 (bits .xor .u64 y16 ((a0.put 0 (IntKind.u64.wrap ((a0.at 0) + (a0.at 1)))).at 0))).put 0 y22) (i := 2) (by decide) (IntKind.u64.wrap (((((a0.put 0 (IntKind.u64.wrap ((a0.at 0) + (a0.at 1)))).put 1 (bits .xor .u64 y16 ((a0.put 0 (IntKind.u64.wrap ((a0.at 0) + (a0.at 1)))).at 0))).put 0 y22).at 2) + ((((a0.put 0 (IntKind.u64.wrap ((a0.at 0) + (a0.at 1)))).put 1 (bits .xor .u64 y16 ((a0.put 0 (IntKind.u64.wrap ((a0.at 0) + (a0.at 1)))).at 0))).put 0 y22).at 3)))
 refine Za rfl (by simp [ar24, as25, ar26, as27, ap28]; rfl) ?_
 have ar29 := ZJ (k := .u64) ((((a0.put 0 (IntKind.u64.wrap ((a0.at 0) + (a0.at 1)))).put 1 (bits .xor .u64 y16 ((a0.put 0 (IntKind.u64.wrap ((a0.at 0) + (a0.at 1)))).at 0))).put 0 y22).put 2 (IntKind.u64.wrap (((((a0.put 0 (IntKind.u64.wrap ((a0.at 0) + (a0.at 1)))).put 1 (bits .xor .u64 y16 ((a0.put 0 (IntKind.u64.wrap ((a0.at 0) + (a0.at 1)))).at 0))).put 0 y22).at 2) + ((((a0.put 0 (IntKind.u64.wrap ((a0.at 0) + (a0.at 1)))).put 1 (bits .xor .u64 y16 ((a0.put 0 (IntKind.u64.wrap ((a0.at 0) + (a0.at 1)))).at 0))).put 0 y22).at 3)))) (i := 3) (by decide)
 have as30 := ZL (k := .u64) ((((a0.put 0 (IntKind.u64.wrap ((a0.at 0) + (a0.at 1)))).put 1 (bits .xor .u64 y16 ((a0.put 0 (IntKind.u64.wrap ((a0.at 0) + (a0.at 1)))).at 0))).put 0 y22).put 2 (IntKind.u64.wrap (((((a0.put 0 (IntKind.u64.wrap ((a0.at 0) + (a0.at 1)))).put 1 (bits .xor .u64 y16 ((a0.put 0 (IntKind.u64.wrap ((a0.at 0) + (a0.at 1)))).at 0))).put 0 y22).at 2) + ((((a0.put 0 (IntKind.u64.wrap ((a0.at 0) + (a0.at 1)))).put 1 (bits .xor .u64 y16 ((a0.put 0 (IntKind.u64.wrap ((a0.at 0) + (a0.at 1)))).at 0))).put 0 y22).at 3)))) (i := 3) (by decide)
 obtain ⟨y31, hy31, hr⟩ := bs hr
 have ehy31 := Zb3 hy31
 simp only [E67, R67, nf, nfs] at ehy31
 have ar32 := ZJ (k := .u64) ((((a0.put 0 (IntKind.u64.wrap ((a0.at 0) + (a0.at 1)))).put 1 (bits .xor .u64 y16 ((a0.put 0 (IntKind.u64.wrap ((a0.at 0) + (a0.at 1)))).at 0))).put 0 y22).put 2 (IntKind.u64.wrap (((((a0.put 0 (IntKind.u64.wrap ((a0.at 0) + (a0.at 1)))).put 1 (bits .xor .u64 y16 ((a0.put 0 (IntKind.u64.wrap ((a0.at 0) + (a0.at 1)))).at 0))).put 0 y22).at 2) + ((((a0.put 0 (IntKind.u64.wrap ((a0.at 0) + (a0.at 1)))).put 1 (bits .xor .u64 y16 ((a0.put 0 (IntKind.u64.wrap ((a0.at 0) + (a0.at 1)))).at 0))).put 0 y22).at 3)))) (i := 2) (by decide)
 have as33 := ZL (k := .u64) ((((a0.put 0 (IntKind.u64.wrap ((a0.at 0) + (a0.at 1)))).put 1 (bits .xor .u64 y16 ((a0.put 0 (IntKind.u64.wrap ((a0.at 0) + (a0.at 1)))).at 0))).put 0 y22).put 2 (IntKind.u64.wrap (((((a0.put 0 (IntKind.u64.wrap ((a0.at 0) + (a0.at 1)))).put 1 (bits .xor .u64 y16 ((a0.put 0 (IntKind.u64.wrap ((a0.at 0) + (a0.at 1)))).at 0))).put 0 y22).at 2) + ((((a0.put 0 (IntKind.u64.wrap ((a0.at 0) + (a0.at 1)))).put 1 (bits .xor .u64 y16 ((a0.put 0 (IntKind.u64.wrap ((a0.at 0) + (a0.at 1)))).at 0))).put 0 y22).at 3)))) (i := 2) (by decide)
 obtain ⟨x34, hx34, hr⟩ := bs hr
 have qhx34 := Option.some.inj hx34
 have ap35 := (YH (k := .u64) ((((a0.put 0 (IntKind.u64.wrap ((a0.at 0) + (a0.at 1)))).put 1 (bits .xor .u64 y16 ((a0.put 0 (IntKind.u64.wrap ((a0.at 0) + (a0.at 1)))).at 0))).put 0 y22).put 2 (IntKind.u64.wrap (((((a0.put 0 (IntKind.u64.wrap ((a0.at 0) + (a0.at 1)))).put 1 (bits .xor .u64 y16 ((a0.put 0 (IntKind.u64.wrap ((a0.at 0) + (a0.at 1)))).at 0))).put 0 y22).at 2) + ((((a0.put 0 (IntKind.u64.wrap ((a0.at 0) + (a0.at 1)))).put 1 (bits .xor .u64 y16 ((a0.put 0 (IntKind.u64.wrap ((a0.at 0) + (a0.at 1)))).at 0))).put 0 y22).at 3)))) (i := 3) (by decide) (bits .xor .u64 y31 (((((a0.put 0 (IntKind.u64.wrap ((a0.at 0) + (a0.at 1)))).put 1 (bits .xor .u64 y16 ((a0.put 0 (IntKind.u64.wrap ((a0.at 0) + (a0.at 1)))).at 0))).put 0 y22).put 2 (IntKind.u64.wrap (((((a0.put 0 (IntKind.u64.wrap ((a0.at 0) + (a0.at 1)))).put 1 (bits .xor .u64 y16 ((a0.put 0 (IntKind.u64.wrap ((a0.at 0) + (a0.at 1)))).at 0))).put 0 y22).at 2) + ((((a0.put 0 (IntKind.u64.wrap ((a0.at 0) + (a0.at 1)))).put 1 (bits .xor .u64 y16 ((a0.put 0 (IntKind.u64.wrap ((a0.at 0) + (a0.at 1)))).at 0))).put 0 y22).at 3)))).at 2))).trans (congrArg _ qhx34)
 refine Zt rfl (by simp [ar29, as30, hO, hT67, ehy31, ar32, as33, ap35]; first | exact ⟨rfl, rfl⟩ | rfl) (by kernel_rfl) ?_
 have ar36 := ZJ (k := .u64) (x34) (i := 0) (by decide)
 have as37 := ZL (k := .u64) (x34) (i := 0) (by decide)
 have ar38 := ZJ (k := .u64) (x34) (i := 3) (by decide)
 have as39 := ZL (k := .u64) (x34) (i := 3) (by decide)
 have ap40 := YH (k := .u64) (x34) (i := 0) (by decide) (IntKind.u64.wrap ((x34.at 0) + (x34.at 3)))
 refine Za rfl (by simp [ar36, as37, ar38, as39, ap40]; rfl) ?_
 have ar41 := ZJ (k := .u64) (x34.put 0 (IntKind.u64.wrap ((x34.at 0) + (x34.at 3)))) (i := 3) (by decide)
 have as42 := ZL (k := .u64) (x34.put 0 (IntKind.u64.wrap ((x34.at 0) + (x34.at 3)))) (i := 3) (by decide)
 obtain ⟨y43, hy43, hr⟩ := bs hr
 have ehy43 := Zb3 hy43
 simp only [E67, R67, nf, nfs] at ehy43
 have ar44 := ZJ (k := .u64) (x34.put 0 (IntKind.u64.wrap ((x34.at 0) + (x34.at 3)))) (i := 0) (by decide)
 have as45 := ZL (k := .u64) (x34.put 0 (IntKind.u64.wrap ((x34.at 0) + (x34.at 3)))) (i := 0) (by decide)
 have ap46 := YH (k := .u64) (x34.put 0 (IntKind.u64.wrap ((x34.at 0) + (x34.at 3)))) (i := 3) (by decide) (bits .xor .u64 y43 ((x34.put 0 (IntKind.u64.wrap ((x34.at 0) + (x34.at 3)))).at 0))
 refine Zt rfl (by simp [ar41, as42, hO, hT67, ehy43, ar44, as45, ap46]; first | exact ⟨rfl, rfl⟩ | rfl) (by kernel_rfl) ?_
 have ar47 := ZJ (k := .u64) ((x34.put 0 (IntKind.u64.wrap ((x34.at 0) + (x34.at 3)))).put 3 (bits .xor .u64 y43 ((x34.put 0 (IntKind.u64.wrap ((x34.at 0) + (x34.at 3)))).at 0))) (i := 2) (by decide)
 have as48 := ZL (k := .u64) ((x34.put 0 (IntKind.u64.wrap ((x34.at 0) + (x34.at 3)))).put 3 (bits .xor .u64 y43 ((x34.put 0 (IntKind.u64.wrap ((x34.at 0) + (x34.at 3)))).at 0))) (i := 2) (by decide)
 have ar49 := ZJ (k := .u64) ((x34.put 0 (IntKind.u64.wrap ((x34.at 0) + (x34.at 3)))).put 3 (bits .xor .u64 y43 ((x34.put 0 (IntKind.u64.wrap ((x34.at 0) + (x34.at 3)))).at 0))) (i := 1) (by decide)
 have as50 := ZL (k := .u64) ((x34.put 0 (IntKind.u64.wrap ((x34.at 0) + (x34.at 3)))).put 3 (bits .xor .u64 y43 ((x34.put 0 (IntKind.u64.wrap ((x34.at 0) + (x34.at 3)))).at 0))) (i := 1) (by decide)
 have ap51 := YH (k := .u64) ((x34.put 0 (IntKind.u64.wrap ((x34.at 0) + (x34.at 3)))).put 3 (bits .xor .u64 y43 ((x34.put 0 (IntKind.u64.wrap ((x34.at 0) + (x34.at 3)))).at 0))) (i := 2) (by decide) (IntKind.u64.wrap ((((x34.put 0 (IntKind.u64.wrap ((x34.at 0) + (x34.at 3)))).put 3 (bits .xor .u64 y43 ((x34.put 0 (IntKind.u64.wrap ((x34.at 0) + (x34.at 3)))).at 0))).at 2) + (((x34.put 0 (IntKind.u64.wrap ((x34.at 0) + (x34.at 3)))).put 3 (bits .xor .u64 y43 ((x34.put 0 (IntKind.u64.wrap ((x34.at 0) + (x34.at 3)))).at 0))).at 1)))
 refine Za rfl (by simp [ar47, as48, ar49, as50, ap51]; rfl) ?_
 have ar52 := ZJ (k := .u64) (((x34.put 0 (IntKind.u64.wrap ((x34.at 0) + (x34.at 3)))).put 3 (bits .xor .u64 y43 ((x34.put 0 (IntKind.u64.wrap ((x34.at 0) + (x34.at 3)))).at 0))).put 2 (IntKind.u64.wrap ((((x34.put 0 (IntKind.u64.wrap ((x34.at 0) + (x34.at 3)))).put 3 (bits .xor .u64 y43 ((x34.put 0 (IntKind.u64.wrap ((x34.at 0) + (x34.at 3)))).at 0))).at 2) + (((x34.put 0 (IntKind.u64.wrap ((x34.at 0) + (x34.at 3)))).put 3 (bits .xor .u64 y43 ((x34.put 0 (IntKind.u64.wrap ((x34.at 0) + (x34.at 3)))).at 0))).at 1)))) (i := 1) (by decide)
 have as53 := ZL (k := .u64) (((x34.put 0 (IntKind.u64.wrap ((x34.at 0) + (x34.at 3)))).put 3 (bits .xor .u64 y43 ((x34.put 0 (IntKind.u64.wrap ((x34.at 0) + (x34.at 3)))).at 0))).put 2 (IntKind.u64.wrap ((((x34.put 0 (IntKind.u64.wrap ((x34.at 0) + (x34.at 3)))).put 3 (bits .xor .u64 y43 ((x34.put 0 (IntKind.u64.wrap ((x34.at 0) + (x34.at 3)))).at 0))).at 2) + (((x34.put 0 (IntKind.u64.wrap ((x34.at 0) + (x34.at 3)))).put 3 (bits .xor .u64 y43 ((x34.put 0 (IntKind.u64.wrap ((x34.at 0) + (x34.at 3)))).at 0))).at 1)))) (i := 1) (by decide)
 obtain ⟨y54, hy54, hr⟩ := bs hr
 have ehy54 := Zb3 hy54
 simp only [E67, R67, nf, nfs] at ehy54
 have ar55 := ZJ (k := .u64) (((x34.put 0 (IntKind.u64.wrap ((x34.at 0) + (x34.at 3)))).put 3 (bits .xor .u64 y43 ((x34.put 0 (IntKind.u64.wrap ((x34.at 0) + (x34.at 3)))).at 0))).put 2 (IntKind.u64.wrap ((((x34.put 0 (IntKind.u64.wrap ((x34.at 0) + (x34.at 3)))).put 3 (bits .xor .u64 y43 ((x34.put 0 (IntKind.u64.wrap ((x34.at 0) + (x34.at 3)))).at 0))).at 2) + (((x34.put 0 (IntKind.u64.wrap ((x34.at 0) + (x34.at 3)))).put 3 (bits .xor .u64 y43 ((x34.put 0 (IntKind.u64.wrap ((x34.at 0) + (x34.at 3)))).at 0))).at 1)))) (i := 2) (by decide)
 have as56 := ZL (k := .u64) (((x34.put 0 (IntKind.u64.wrap ((x34.at 0) + (x34.at 3)))).put 3 (bits .xor .u64 y43 ((x34.put 0 (IntKind.u64.wrap ((x34.at 0) + (x34.at 3)))).at 0))).put 2 (IntKind.u64.wrap ((((x34.put 0 (IntKind.u64.wrap ((x34.at 0) + (x34.at 3)))).put 3 (bits .xor .u64 y43 ((x34.put 0 (IntKind.u64.wrap ((x34.at 0) + (x34.at 3)))).at 0))).at 2) + (((x34.put 0 (IntKind.u64.wrap ((x34.at 0) + (x34.at 3)))).put 3 (bits .xor .u64 y43 ((x34.put 0 (IntKind.u64.wrap ((x34.at 0) + (x34.at 3)))).at 0))).at 1)))) (i := 2) (by decide)
 obtain ⟨x57, hx57, hr⟩ := bs hr
 have qhx57 := Option.some.inj hx57
 have ap58 := (YH (k := .u64) (((x34.put 0 (IntKind.u64.wrap ((x34.at 0) + (x34.at 3)))).put 3 (bits .xor .u64 y43 ((x34.put 0 (IntKind.u64.wrap ((x34.at 0) + (x34.at 3)))).at 0))).put 2 (IntKind.u64.wrap ((((x34.put 0 (IntKind.u64.wrap ((x34.at 0) + (x34.at 3)))).put 3 (bits .xor .u64 y43 ((x34.put 0 (IntKind.u64.wrap ((x34.at 0) + (x34.at 3)))).at 0))).at 2) + (((x34.put 0 (IntKind.u64.wrap ((x34.at 0) + (x34.at 3)))).put 3 (bits .xor .u64 y43 ((x34.put 0 (IntKind.u64.wrap ((x34.at 0) + (x34.at 3)))).at 0))).at 1)))) (i := 1) (by decide) (bits .xor .u64 y54 ((((x34.put 0 (IntKind.u64.wrap ((x34.at 0) + (x34.at 3)))).put 3 (bits .xor .u64 y43 ((x34.put 0 (IntKind.u64.wrap ((x34.at 0) + (x34.at 3)))).at 0))).put 2 (IntKind.u64.wrap ((((x34.put 0 (IntKind.u64.wrap ((x34.at 0) + (x34.at 3)))).put 3 (bits .xor .u64 y43 ((x34.put 0 (IntKind.u64.wrap ((x34.at 0) + (x34.at 3)))).at 0))).at 2) + (((x34.put 0 (IntKind.u64.wrap ((x34.at 0) + (x34.at 3)))).put 3 (bits .xor .u64 y43 ((x34.put 0 (IntKind.u64.wrap ((x34.at 0) + (x34.at 3)))).at 0))).at 1)))).at 2))).trans (congrArg _ qhx57)
 refine Zt rfl (by simp [ar52, as53, hO, hT67, ehy54, ar55, as56, ap58]; first | exact ⟨rfl, rfl⟩ | rfl) (by kernel_rfl) ?_
 have ar59 := ZJ (k := .u64) (x57) (i := 2) (by decide)
 have as60 := ZL (k := .u64) (x57) (i := 2) (by decide)
 obtain ⟨y61, hy61, hr⟩ := bs hr
 have ehy61 := Zb3 hy61
 simp only [E67, R67, nf, nfs] at ehy61
 have ap62 := YH (k := .u64) (x57) (i := 2) (by decide) (y61)
 refine Za rfl (by simp [ar59, as60, hO, hT67, ehy61, ap62]; rfl) ?_
 refine Za rfl (by simp []; rfl) ?_
 refine Zx ?_
 obtain rfl := Option.some.inj hr
 simp [Zn, ]
def kp64 : Keep := fun i => ⟨[], [], []⟩
theorem w64 {T : Tab} (hO : T.own = fun _ => []) (hT66 : T 66 = some G66) (a0 : (Arr 4)) (a1 : Int) (x : (Arr 4)) (hr : X8 a0 a1 = some x) : ∃ kp fl n, ZI tt T G kp fl n Try.f64 (E64 (a0, a1)) = some (R64 (a0, a1) x) := by
 simp only [E64, R64]
 refine fnE (kp := kp64) (w := false) body64 (by simp) ?_
 unfold c64
 rw [Try.ntmps64]
 unfold X8 at hr
 refine Za rfl (by simp []; rfl) ?_
 have ar3 := ZJ (k := .u64) (a0) (i := 3) (by decide)
 have as4 := ZL (k := .u64) (a0) (i := 3) (by decide)
 have ap5 := YH (k := .u64) (a0) (i := 3) (by decide) (bits .xor .u64 (a0.at 3) a1)
 refine Za rfl (by simp [ar3, as4, ap5]; rfl) ?_
 obtain ⟨y6, hy6, hr⟩ := bs hr
 have ehy6 := ZeR hy6
 simp only [E66, R66, nf, nfs] at ehy6
 obtain ⟨y7, hy7, hr⟩ := bs hr
 have ehy7 := ZeR hy7
 simp only [E66, R66, nf, nfs] at ehy7
 refine Za rfl (by simp [hO, hT66, ehy6, ehy7]; rfl) ?_
 have ar8 := ZJ (k := .u64) (y7) (i := 0) (by decide)
 have as9 := ZL (k := .u64) (y7) (i := 0) (by decide)
 have ap10 := YH (k := .u64) (y7) (i := 0) (by decide) (bits .xor .u64 (y7.at 0) a1)
 refine Za rfl (by simp [ar8, as9, ap10]; rfl) ?_
 refine Za rfl (by simp []; rfl) ?_
 refine Zx ?_
 obtain rfl := Option.some.inj hr
 simp [Zn, ]
def kp65 : Keep := fun i => if i = 3 then ⟨[0, 3, 6, 7], [], []⟩ else ⟨[], [], []⟩
theorem w65 {T : Tab} (a0 : (List Int)) (x : Int) (hr : Zbj a0 = some x) : ∃ kp fl n, ZI tt T G kp fl n Try.f65 (E65 a0) = some (R65 a0 x) := by
 simp only [E65, R65]
 refine fnE (kp := kp65) (w := false) body65 (by simp) ?_
 unfold c65
 rw [Try.ntmps65]
 unfold Zbj at hr
 refine Za rfl (by simp []; rfl) ?_
 refine Za rfl (by simp []; rfl) ?_
 refine Zf ?_
 refine Za rfl (by simp []; rfl) ?_
 refine Zk ?_
 refine ZU (kq := ⟨[0, 3, 6, 7], [], []⟩) (H := fun (s : Int × Int) => match s with | (p7, p8) => (⟨([.one (.slice .no (Zi .u8 a0))] ++ (und 2 ++ ([.one (.v (.int .u64 p7))] ++ (und 2 ++ ([.one (.v (.int .i64 (a0.length : Int))), .one (.v (.int .i64 p8))] ++ (und 14))))) : List PV), ([] : Boxes)⟩ : ASt)) (by kernel_rfl) hr (by simp [und, List.replicate, ]) ?_
 rintro ⟨p7, p8⟩ x18r hr18
 simp only [ZeM] at hr18
 unfold b65_1
 simp only [und, List.replicate, List.cons_append, List.nil_append]
 refine Za rfl (by simp []; rfl) ?_
 by_cases c19 : p8 < (a0.length : Int)
 ·skip
  have c19N := c19
  try simp at c19N
  first | have c19M : (_ = _) = True := eq_true c19N | have c19M := c19N
  rw [if_pos] at hr18
  rotate_left
  ·simp [c19, c19M]
  refine Ze (by simp [bV, c19, c19M]) ?_
  refine Zh ?_
  refine Zk ?_
  refine Za rfl (by simp [c19, c19M]; rfl) ?_
  obtain ⟨x20, hx20, hr18⟩ := bs hr18
  obtain ⟨hx20a, hx20b⟩ := Y8 hx20
  have hx20c := Zq hx20b
  obtain ⟨_, u21, hr18⟩ := bs hr18
  have u21_0 := Zp u21
  refine ZA rfl (by simp [hx20a, hx20b, hx20c, u21_0, c19, c19M]; rfl) ?_
  simp only [pq, reduceCtorEq]
  refine ZA rfl (by simp [c19, c19M]; rfl) ?_
  obtain rfl := Option.some.inj hr18
  simp only [pq, reduceCtorEq]
  simp [und, List.replicate, Nat.add_assoc, c19, c19M]
 ·skip
  have c19N := c19
  try simp at c19N
  first | have c19M : (_ = _) = True := eq_true c19N | have c19M := c19N
  rw [if_neg] at hr18
  rotate_left
  ·simp [c19, c19M]
  refine Zg (by simp [bV, c19, c19M]) ?_
  refine Zo ?_
  obtain ⟨r22, q22, rfl⟩ := ms hr18
  simp only [pq, reduceCtorEq]
  rintro rfl
  try simp only [pq, reduceCtorEq]
  unfold ZeL at q22
  refine Za rfl (by simp [c19, c19M]; rfl) ?_
  refine Zx ?_
  obtain rfl := Option.some.inj q22
  simp [Zn, c19, c19M, c19N]
def kp51 : Keep := fun i => if i = 3 then ⟨[1, 5, 6], [5], []⟩ else ⟨[], [], []⟩
theorem w51 {T : Tab} (hO : T.own = fun _ => []) (hT64 : T 64 = some G64) (hT65 : T 65 = some G65) (hT66 : T 66 = some G66) (a0 : (Arr 2)) (a1 : (List Int)) (x : Int) (hr : ZbY a0 a1 = some x) : ∃ kp fl n, ZI tt T G kp fl n Try.f51 (E51 (a0, a1)) = some (R51 (a0, a1) x) := by
 simp only [E51, R51]
 refine fnE (kp := kp51) (w := false) body51 (by simp) ?_
 unfold c51
 rw [Try.ntmps51]
 unfold ZbY at hr
 refine Za rfl (by simp []; rfl) ?_
 have ar27 := ZJ (k := .u64) (a0) (i := 0) (by decide)
 have as28 := ZL (k := .u64) (a0) (i := 0) (by decide)
 have ar29 := ZJ (k := .u64) (a0) (i := 1) (by decide)
 have as30 := ZL (k := .u64) (a0) (i := 1) (by decide)
 have ar31 := ZJ (k := .u64) (a0) (i := 0) (by decide)
 have as32 := ZL (k := .u64) (a0) (i := 0) (by decide)
 have ar33 := ZJ (k := .u64) (a0) (i := 1) (by decide)
 have as34 := ZL (k := .u64) (a0) (i := 1) (by decide)
 have ap35 := YH (k := .u64) (zA 4) (i := 0) (by decide) (bits .xor .u64 (a0.at 0) 8317987319222330741)
 have ap36 := YH (k := .u64) ((zA 4).put 0 (bits .xor .u64 (a0.at 0) 8317987319222330741)) (i := 1) (by decide) (bits .xor .u64 (a0.at 1) 7237128888997146477)
 have ap37 := YH (k := .u64) (((zA 4).put 0 (bits .xor .u64 (a0.at 0) 8317987319222330741)).put 1 (bits .xor .u64 (a0.at 1) 7237128888997146477)) (i := 2) (by decide) (bits .xor .u64 (a0.at 0) 7816392313619706465)
 have ap38 := YH (k := .u64) ((((zA 4).put 0 (bits .xor .u64 (a0.at 0) 8317987319222330741)).put 1 (bits .xor .u64 (a0.at 1) 7237128888997146477)).put 2 (bits .xor .u64 (a0.at 0) 7816392313619706465)) (i := 3) (by decide) (bits .xor .u64 (a0.at 1) 8387220255154660723)
 refine Za rfl (by simp [ar27, as28, ar29, as30, ar31, as32, ar33, as34, ap35, ap36, ap37, ap38]; rfl) ?_
 refine Za rfl (by simp []; rfl) ?_
 refine Zk ?_
 refine ZU (kq := ⟨[1, 5, 6], [5], []⟩) (H := fun (s : (List Int) × (Arr 4)) => match s with | (p11, p12) => (⟨(und 1 ++ ([.one (.slice .no (Zi .u8 p11))] ++ (und 3 ++ ([.ptr 5 0 0 0 4, .one (.v (.int .i64 (a1.length : Int)))] ++ (und 54)))) : List PV), ([(5, ⟨0, 4, [arC .u64 p12], false, false⟩)] : Boxes)⟩ : ASt)) (by kernel_rfl) hr (by simp [und, List.replicate, ]) ?_
 rintro ⟨p11, p12⟩ x48r hr48
 simp only [Zb1] at hr48
 unfold b51_1
 simp only [und, List.replicate, List.cons_append, List.nil_append]
 refine Zf ?_
 refine Za rfl (by simp []; rfl) ?_
 by_cases c49 : 8 ≤ (p11.length : Int)
 ·skip
  have c49N := c49
  try simp at c49N
  first | have c49M : (_ = _) = True := eq_true c49N | have c49M := c49N
  rw [if_pos] at hr48
  rotate_left
  ·simp [c49, c49M]
  refine Ze (by simp [bV, c49, c49M]) ?_
  refine Zh ?_
  refine YT ?_
  obtain ⟨_, u50, hr48⟩ := bs hr48
  have u50_0 := Zp u50
  have sf51 : 8 ≤ p11.length := by omega
  obtain ⟨y52, hy52, hr48⟩ := bs hr48
  have ehy52 := Zly hy52
  simp only [E65, R65, nf, nfs] at ehy52
  obtain ⟨y53, hy53, hr48⟩ := bs hr48
  have ehy53 := Zlx hy53
  simp only [E64, R64, nf, nfs] at ehy53
  obtain ⟨_, u54, hr48⟩ := bs hr48
  have u54_0 := Zp u54
  have sf55 : 8 ≤ p11.length := by omega
  refine Zct rfl (by simp [u50_0, sf51, hO, hT65, ehy52, hT64, ehy53, u54_0, sf55, c49, c49M]; first | exact ⟨rfl, rfl⟩ | rfl) (by kernel_rfl) ?_
  obtain rfl := Option.some.inj hr48
  simp only [pq, reduceCtorEq]
  simp [und, List.replicate, Nat.add_assoc, u50_0, sf51, hO, hT65, ehy52, hT64, ehy53, u54_0, sf55, c49, c49M]
 ·skip
  have c49N := c49
  try simp at c49N
  first | have c49M : (_ = _) = True := eq_true c49N | have c49M := c49N
  rw [if_neg] at hr48
  rotate_left
  ·simp [c49, c49M]
  refine Zg (by simp [bV, c49, c49M]) ?_
  refine Zo ?_
  obtain ⟨r56, q56, rfl⟩ := ms hr48
  simp only [pq, reduceCtorEq]
  rintro rfl
  try simp only [pq, reduceCtorEq]
  unfold ZdV at q56
  obtain ⟨y57, hy57, q56⟩ := bs q56
  have ehy57 := Zly hy57
  simp only [E65, R65, nf, nfs] at ehy57
  obtain ⟨y58, hy58, q56⟩ := bs q56
  have ehy58 := Zlx hy58
  simp only [E64, R64, nf, nfs] at ehy58
  refine Zt rfl (by simp [hO, hT65, ehy57, hT64, ehy58, c49, c49M]; first | exact ⟨rfl, rfl⟩ | rfl) (by kernel_rfl) ?_
  have ar59 := ZJ (k := .u64) (y58) (i := 2) (by decide)
  have as60 := ZL (k := .u64) (y58) (i := 2) (by decide)
  have ap61 := YH (k := .u64) (y58) (i := 2) (by decide) (bits .xor .u64 (y58.at 2) 255)
  refine Za rfl (by simp [ar59, as60, ap61, c49, c49M]; rfl) ?_
  obtain ⟨y62, hy62, q56⟩ := bs q56
  have ehy62 := ZeR hy62
  simp only [E66, R66, nf, nfs] at ehy62
  obtain ⟨y63, hy63, q56⟩ := bs q56
  have ehy63 := ZeR hy63
  simp only [E66, R66, nf, nfs] at ehy63
  obtain ⟨y64, hy64, q56⟩ := bs q56
  have ehy64 := ZeR hy64
  simp only [E66, R66, nf, nfs] at ehy64
  obtain ⟨y65, hy65, q56⟩ := bs q56
  have ehy65 := ZeR hy65
  simp only [E66, R66, nf, nfs] at ehy65
  refine Za rfl (by simp [hO, hT66, ehy62, ehy63, ehy64, ehy65, c49, c49M]; rfl) ?_
  have ar66 := ZJ (k := .u64) (y65) (i := 0) (by decide)
  have as67 := ZL (k := .u64) (y65) (i := 0) (by decide)
  have ar68 := ZJ (k := .u64) (y65) (i := 1) (by decide)
  have as69 := ZL (k := .u64) (y65) (i := 1) (by decide)
  have ar70 := ZJ (k := .u64) (y65) (i := 2) (by decide)
  have as71 := ZL (k := .u64) (y65) (i := 2) (by decide)
  have ar72 := ZJ (k := .u64) (y65) (i := 3) (by decide)
  have as73 := ZL (k := .u64) (y65) (i := 3) (by decide)
  refine Za rfl (by simp [ar66, as67, ar68, as69, ar70, as71, ar72, as73, c49, c49M]; rfl) ?_
  refine Zx ?_
  obtain rfl := Option.some.inj q56
  simp [Zn, ar66, as67, ar68, as69, ar70, as71, ar72, as73, c49, c49M, c49N]
def kp32 : Keep := fun i => ⟨[], [], []⟩
theorem w32 {T : Tab} (hO : T.own = fun _ => []) (hT50 : T 50 = some G50) (hT51 : T 51 = some G51) (a0 : (Arr 2)) (a1 : (List Int)) (a2 : Int) (a3 : Int) (x : Int) (hr : Zaq a0 a1 a2 a3 = some x) : ∃ kp fl n, ZI tt T G kp fl n Try.f32 (E32 (a0, a1, a2, a3)) = some (R32 (a0, a1, a2, a3) x) := by
 simp only [E32, R32]
 refine fnE (kp := kp32) (w := false) body32 (by simp) ?_
 unfold c32
 rw [Try.ntmps32]
 unfold Zaq at hr
 refine Za rfl (by simp []; rfl) ?_
 obtain ⟨y3, hy3, hr⟩ := bs hr
 have ehy3 := Zog hy3
 simp only [E51, R51, nf, nfs] at ehy3
 obtain ⟨y4, hy4, hr⟩ := bs hr
 have ehy4 := Zof hy4
 simp only [E50, R50, nf, nfs] at ehy4
 refine Za rfl (by simp [hO, hT51, ehy3, hT50, ehy4]; rfl) ?_
 refine Zx ?_
 obtain rfl := Option.some.inj hr
 simp [Zn, hO, hT51, ehy3, hT50, ehy4]
def kp33 : Keep := fun i => if i = 1000009 then ⟨[3, 4, 5], [900005], []⟩ else if i = 5 then ⟨[3, 4, 5], [900005], [(5, none, 900005, 1)]⟩ else ⟨[], [], []⟩
theorem w33 {T : Tab} (n : Nat) (hO : T.own = fun _ => []) (hT33 : T 33 = some (Zkm n)) (a0 : (List Int)) (x : (List Int)) (hr : Zby (Lref19_sorted_n n) a0 = some x) : ∃ kp fl n, ZI tt T G kp fl n Try.f33 (E33 a0) = some (R33 a0 x) := by
 simp only [E33, R33]
 refine fnE (kp := kp33) (w := false) body33 (by simp) ?_
 unfold c33
 rw [Try.ntmps33]
 unfold Zby at hr
 refine Za rfl (by simp [-Int.natCast_tdiv_eq_ediv, Nat.add_assoc, ]; rfl) ?_
 refine Zf ?_
 refine Za rfl (by simp [-Int.natCast_tdiv_eq_ediv, Nat.add_assoc, ]; rfl) ?_
 by_cases c44 : (a0.length : Int) < 2
 ·skip
  have c44N := c44
  try simp at c44N
  first | have c44M : (_ = _) = True := eq_true c44N | have c44M := c44N
  rw [if_pos c44] at hr
  refine Ze (by simp [-Int.natCast_tdiv_eq_ediv, Nat.add_assoc, bV, c44, c44M]) ?_
  refine Zf ?_
  refine Za rfl (by simp [-Int.natCast_tdiv_eq_ediv, Nat.add_assoc, c44, c44M]; rfl) ?_
  refine Zl ?_
  obtain rfl := Option.some.inj hr
  simp [-Int.natCast_tdiv_eq_ediv, Nat.add_assoc, Zn, c44, c44M, c44N]
 ·skip
  have c44N := c44
  try simp at c44N
  first | have c44M : (_ = _) = True := eq_true c44N | have c44M := c44N
  rw [if_neg c44] at hr
  refine Zg (by simp [-Int.natCast_tdiv_eq_ediv, Nat.add_assoc, bV, c44, c44M]) ?_
  refine Zh ?_
  obtain ⟨_, u45, hr⟩ := bs hr
  obtain ⟨u45_0, u45_1⟩ := Zp u45
  have sf46 : (IntKind.i64.wrap (((a0.length : Int)).tdiv 2)).toNat ≤ a0.length := by omega
  have sf47 : 0 ≤ IntKind.i64.wrap (((a0.length : Int)).tdiv 2) := by omega
  obtain ⟨y48, hy48, hr⟩ := bs hr
  have ehy48 := Zjz hy48
  simp only [E33, R33, nf, nfs] at ehy48
  obtain ⟨_, u49, hr⟩ := bs hr
  obtain ⟨u49_0, u49_1⟩ := Zp u49
  have sf50 : (IntKind.i64.wrap (((a0.length : Int)).tdiv 2)).toNat ≤ a0.length := by omega
  obtain ⟨y51, hy51, hr⟩ := bs hr
  have ehy51 := Zjz hy51
  simp only [E33, R33, nf, nfs] at ehy51
  refine Zt rfl (by simp [-Int.natCast_tdiv_eq_ediv, Nat.add_assoc, u45_0, u45_1, sf46, sf47, hO, hT33, ehy48, u49_0, u49_1, sf50, ehy51, c44, c44M]; first | exact ⟨rfl, rfl⟩ | rfl) (by kernel_rfl) ?_
  refine Za rfl (by simp [-Int.natCast_tdiv_eq_ediv, Nat.add_assoc, c44, c44M]; rfl) ?_
  refine Zk ?_
  refine ZbR hr (.exit 0) (fun (s : (List Int) × (List Int) × (List Int)) => match s with | (p29, p27, p28) => (⟨(und 3 ++ ([.one (.slice .no (Zi .u64 p27)), .one (.slice .no (Zi .u64 p28)), .one (.ms 900005 0 0 (p29.length) 1)] ++ (und 52)) : List PV), ([(900005, ⟨0, 1, Zi .u64 p29, false, true⟩)] : Boxes)⟩ : ASt)) (fun (s : (List Int) × (List Int) × (List Int)) => match s with | (p29, p27, p28) => Zae p29 p27 p28) ?_ ?_
  ·skip
   rintro ⟨p29, p27, p28⟩ hk66
   change Zae p29 p27 p28 = _ at hk66
   simp only [pq, reduceCtorEq]
   simp only [und, List.replicate, List.cons_append, List.nil_append]
   unfold Zae at hk66
   obtain ⟨_, u67, hk66⟩ := bs hk66
   have u67_0 := Zp u67
   have n1_u67_0 : (p29.length + p27.length) * 8 ≤ 140737488355328 := by omega
   have n2_u67_0 : p29.length + p27.length ≤ 9223372036854775807 := by omega
   obtain ⟨_, u68, hk66⟩ := bs hk66
   have u68_0 := Zp u68
   have n1_u68_0 : (p29.length + (p27.length + p28.length)) * 8 ≤ 140737488355328 := by
    have h := u68_0
    try simp at h
    omega
   have n2_u68_0 : p29.length + (p27.length + p28.length) ≤ 9223372036854775807 := by
    have h := u68_0
    try simp at h
    omega
   refine Y6 rfl (kq := ⟨[3, 4, 5], [900005], []⟩) rfl (by simp [-Int.natCast_tdiv_eq_ediv, Nat.add_assoc, Ys, n1_u67_0, n2_u67_0, n1_u68_0, n2_u68_0, c44, c44M]; rfl) (by simp [-Int.natCast_tdiv_eq_ediv, Nat.add_assoc, n1_u67_0, n2_u67_0, n1_u68_0, n2_u68_0, c44, c44M]; rfl) ?_
   refine Zx ?_
   obtain rfl := Option.some.inj hk66
   simp [-Int.natCast_tdiv_eq_ediv, Nat.add_assoc, Zn, n1_u67_0, n2_u67_0, n1_u68_0, n2_u68_0, c44, c44M, c44N]
  ·skip
   intro J66
   simp only [pq, reduceCtorEq] at J66
   refine ZU (kq := ⟨[3, 4, 5], [900005], [(5, none, 900005, 1)]⟩) (H := fun (s : (List Int) × (List Int) × (List Int)) => match s with | (p27, p28, p29) => (⟨(und 3 ++ ([.one (.slice .no (Zi .u64 p27)), .one (.slice .no (Zi .u64 p28)), .one (.ms 900005 0 0 (p29.length) 1)] ++ (und 52)) : List PV), ([(900005, ⟨0, 1, Zi .u64 p29, false, true⟩)] : Boxes)⟩ : ASt)) (by kernel_rfl) hr (by simp [-Int.natCast_tdiv_eq_ediv, Nat.add_assoc, und, List.replicate, c44, c44M]) ?_
   rintro ⟨p27, p28, p29⟩ x69r hr69
   simp only [Lref19_sorted_s1] at hr69
   unfold b33_1
   simp only [und, List.replicate, List.cons_append, List.nil_append]
   refine Zf ?_
   by_cases c70 : 0 < (p27.length : Int)
   ·skip
    have c70N := c70
    try simp at c70N
    first | have c70M : (_ = _) = True := eq_true c70N | have c70M := c70N
    refine Za rfl (by simp [-Int.natCast_tdiv_eq_ediv, Nat.add_assoc, c44, c44M, c70, c70M]; rfl) ?_
    by_cases c71 : 0 < (p28.length : Int)
    ·skip
     have c71N := c71
     try simp at c71N
     first | have c71M : (_ = _) = True := eq_true c71N | have c71M := c71N
     rw [if_pos] at hr69
     rotate_left
     ·simp [-Int.natCast_tdiv_eq_ediv, Nat.add_assoc, c44, c44M, c70, c70M, c71, c71M]
     refine Ze (by simp [-Int.natCast_tdiv_eq_ediv, Nat.add_assoc, bV, c44, c44M, c70, c70M, c71, c71M]) ?_
     refine Zh ?_
     refine YT ?_
     obtain ⟨x72, hx72, hr69⟩ := bs hr69
     have hx72c := Zq hx72
     obtain ⟨x73, hx73, hr69⟩ := bs hr69
     have hx73c := Zq hx73
     refine Zt rfl (by simp [-Int.natCast_tdiv_eq_ediv, Nat.add_assoc, hx72, hx72c, hx73, hx73c, c44, c44M, c70, c70M, c71, c71M]; first | exact ⟨rfl, rfl⟩ | rfl) (by kernel_rfl) ?_
     by_cases c74 : x72 ≤ x73
     ·skip
      rw [if_pos c74] at hr69
      refine Yo (by simp [-Int.natCast_tdiv_eq_ediv, Nat.add_assoc, bV, c44, c44M, c70, c70M, c71, c71M, c74]) ?_
      have hx72c := Zq hx72
      obtain ⟨_, u75, hr69⟩ := bs hr69
      have u75_0 := Zp u75
      have n1_u75_0 : (p29.length + 1) * 8 ≤ 140737488355328 := by omega
      have n2_u75_0 : p29.length + 1 ≤ 9223372036854775807 := by omega
      obtain ⟨_, u76, hr69⟩ := bs hr69
      have u76_0 := Zp u76
      have sf77 : 1 ≤ p27.length := by omega
      refine Zct rfl (by simp [-Int.natCast_tdiv_eq_ediv, Nat.add_assoc, hx72, hx72c, n1_u75_0, n2_u75_0, u76_0, sf77, c44, c44M, c70, c70M, c71, c71M, c74]; first | exact ⟨rfl, rfl⟩ | rfl) (by kernel_rfl) ?_
      obtain rfl := Option.some.inj hr69
      simp only [pq, reduceCtorEq]
      simp [-Int.natCast_tdiv_eq_ediv, Nat.add_assoc, und, List.replicate, Nat.add_assoc, hx72, hx72c, n1_u75_0, n2_u75_0, u76_0, sf77, c44, c44M, c70, c70M, c71, c71M, c74]
     ·skip
      rw [if_neg c74] at hr69
      refine YI (by simp [-Int.natCast_tdiv_eq_ediv, Nat.add_assoc, bV, c44, c44M, c70, c70M, c71, c71M, c74]) ?_
      have hx73c := Zq hx73
      obtain ⟨_, u78, hr69⟩ := bs hr69
      have u78_0 := Zp u78
      have n1_u78_0 : (p29.length + 1) * 8 ≤ 140737488355328 := by omega
      have n2_u78_0 : p29.length + 1 ≤ 9223372036854775807 := by omega
      obtain ⟨_, u79, hr69⟩ := bs hr69
      have u79_0 := Zp u79
      have sf80 : 1 ≤ p28.length := by omega
      refine Zct rfl (by simp [-Int.natCast_tdiv_eq_ediv, Nat.add_assoc, hx73, hx73c, n1_u78_0, n2_u78_0, u79_0, sf80, c44, c44M, c70, c70M, c71, c71M, c74]; first | exact ⟨rfl, rfl⟩ | rfl) (by kernel_rfl) ?_
      obtain rfl := Option.some.inj hr69
      simp only [pq, reduceCtorEq]
      simp [-Int.natCast_tdiv_eq_ediv, Nat.add_assoc, und, List.replicate, Nat.add_assoc, hx73, hx73c, n1_u78_0, n2_u78_0, u79_0, sf80, c44, c44M, c70, c70M, c71, c71M, c74]
    ·skip
     have c71N := c71
     try simp at c71N
     first | have c71M : (_ = _) = True := eq_true c71N | have c71M := c71N
     have c71L : ¬ 0 < p28.length := by omega
     rw [if_neg] at hr69
     rotate_left
     ·simp [-Int.natCast_tdiv_eq_ediv, Nat.add_assoc, c44, c44M, c70, c70M, c71, c71M, c71L]
     refine Zg (by simp [-Int.natCast_tdiv_eq_ediv, Nat.add_assoc, bV, c44, c44M, c70, c70M, c71, c71M, c71L]) ?_
     refine Zo ?_
     obtain ⟨r81, q81, rfl⟩ := ms hr69
     simp only [pq, reduceCtorEq]
     rintro rfl
     try simp only [pq, reduceCtorEq]
     exact ZK (key := 1000009) (kq := ⟨[3, 4, 5], [900005], []⟩) rfl rfl rfl (by simp [-Int.natCast_tdiv_eq_ediv, Nat.add_assoc, und, List.replicate, c44, c44M, c70, c70M, c71, c71M, c71L]) (J66 (p29, p27, p28) q81)
   ·skip
    have c70N := c70
    try simp at c70N
    first | have c70M : (_ = _) = True := eq_true c70N | have c70M := c70N
    have c70L : ¬ 0 < p27.length := by omega
    refine Za rfl (by simp [-Int.natCast_tdiv_eq_ediv, Nat.add_assoc, c44, c44M, c70, c70M, c70L]; rfl) ?_
    rw [if_neg] at hr69
    rotate_left
    ·simp [-Int.natCast_tdiv_eq_ediv, Nat.add_assoc, c44, c44M, c70, c70M, c70L]
    refine Zg (by simp [-Int.natCast_tdiv_eq_ediv, Nat.add_assoc, bV, c44, c44M, c70, c70M, c70L]) ?_
    refine Zo ?_
    obtain ⟨r82, q82, rfl⟩ := ms hr69
    simp only [pq, reduceCtorEq]
    rintro rfl
    try simp only [pq, reduceCtorEq]
    exact ZK (key := 1000009) (kq := ⟨[3, 4, 5], [900005], []⟩) rfl rfl rfl (by simp [-Int.natCast_tdiv_eq_ediv, Nat.add_assoc, und, List.replicate, c44, c44M, c70, c70M, c70L]) (J66 (p29, p27, p28) q82)
def kp18 : Keep := fun i => if i = 8 then ⟨[2, 3, 4, 8, 10, 11, 35, 36, 37], [4, 8, 34, 49], [(11, none, 49, 1)]⟩ else ⟨[], [], []⟩
theorem w18 {T : Tab} (hO : T.own = fun _ => []) (hT14 : T 14 = some G14) (hT31 : T 31 = some G31) (hT32 : T 32 = some G32) (hT33 : T 33 = some G33) (a0 : (Arr 2)) (a1 : (List (List Int))) (a2 : Int) (a3 : Int) (x : Tapi_Filter × Int) (hr : Zar a0 a1 a2 a3 = some x) : ∃ kp fl n, ZI tt T G kp fl n Try.f18 (E18 (a0, a1, a2, a3)) = some (R18 (a0, a1, a2, a3) x) := by
 simp only [E18, R18]
 refine fnE (kp := kp18) (w := false) body18 (by simp) ?_
 unfold c18
 rw [Try.ntmps18]
 unfold Zar at hr
 refine Za rfl (by simp []; rfl) ?_
 refine Zf ?_
 refine Za rfl (by simp []; rfl) ?_
 by_cases c23 : 4096 < (a1.length : Int)
 ·skip
  have c23N := c23
  try simp at c23N
  first | have c23M : (_ = _) = True := eq_true c23N | have c23M := c23N
  rw [if_pos c23] at hr
  refine Ze (by simp [bV, c23, c23M]) ?_
  refine Zf ?_
  refine Za rfl (by simp [c23, c23M]; rfl) ?_
  refine Zl ?_
  obtain rfl := Option.some.inj hr
  simp [Zn, c23, c23M, c23N]
 ·skip
  have c23N := c23
  try simp at c23N
  first | have c23M : (_ = _) = True := eq_true c23N | have c23M := c23N
  rw [if_neg c23] at hr
  refine Zg (by simp [bV, c23, c23M]) ?_
  refine Zh ?_
  refine Zf ?_
  by_cases c24 : a3 < 1
  ·skip
   refine Za rfl (by simp [c23, c23M, c24]; rfl) ?_
   rw [if_pos] at hr
   rotate_left
   ·simp [c23, c23M, c24]
   refine Ze (by simp [bV, c23, c23M, c24]) ?_
   refine Zf ?_
   refine Za rfl (by simp [c23, c23M, c24]; rfl) ?_
   refine Zl ?_
   obtain rfl := Option.some.inj hr
   simp [Zn, c23, c23M, c24, c23N]
  ·skip
   by_cases c25 : 1099511627776 < a3
   ·skip
    refine Za rfl (by simp [c23, c23M, c24, c25]; rfl) ?_
    rw [if_pos] at hr
    rotate_left
    ·simp [c23, c23M, c24, c25]
    refine Ze (by simp [bV, c23, c23M, c24, c25]) ?_
    refine Zf ?_
    refine Za rfl (by simp [c23, c23M, c24, c25]; rfl) ?_
    refine Zl ?_
    obtain rfl := Option.some.inj hr
    simp [Zn, c23, c23M, c24, c25, c23N]
   ·skip
    by_cases c26 : a2 < 0
    ·skip
     refine Za rfl (by simp [c23, c23M, c24, c25, c26]; rfl) ?_
     rw [if_pos] at hr
     rotate_left
     ·simp [c23, c23M, c24, c25, c26]
     refine Ze (by simp [bV, c23, c23M, c24, c25, c26]) ?_
     refine Zf ?_
     refine Za rfl (by simp [c23, c23M, c24, c25, c26]; rfl) ?_
     refine Zl ?_
     obtain rfl := Option.some.inj hr
     simp [Zn, c23, c23M, c24, c25, c26, c23N]
    ·skip
     refine Za rfl (by simp [c23, c23M, c24, c25, c26]; rfl) ?_
     by_cases c27 : 32 < a2
     ·skip
      rw [if_pos] at hr
      rotate_left
      ·simp [c23, c23M, c24, c25, c26, c27]
      refine Ze (by simp [bV, c23, c23M, c24, c25, c26, c27]) ?_
      refine Zf ?_
      refine Za rfl (by simp [c23, c23M, c24, c25, c26, c27]; rfl) ?_
      refine Zl ?_
      obtain rfl := Option.some.inj hr
      simp [Zn, c23, c23M, c24, c25, c26, c27, c23N]
     ·skip
      rw [if_neg] at hr
      rotate_left
      ·simp [c23, c23M, c24, c25, c26, c27]
      refine Zg (by simp [bV, c23, c23M, c24, c25, c26, c27]) ?_
      refine Zh ?_
      obtain ⟨y28, hy28, hr⟩ := bs hr
      have ehy28 := Zoe hy28
      simp only [E31, R31, nf, nfs] at ehy28
      refine Za rfl (by simp [hO, hT31, ehy28, c23, c23M, c24, c25, c26, c27]; rfl) ?_
      refine Za rfl (by simp [c23, c23M, c24, c25, c26, c27]; rfl) ?_
      refine Zf ?_
      refine Za rfl (by simp [c23, c23M, c24, c25, c26, c27]; rfl) ?_
      refine Zk ?_
      refine ZU (kq := ⟨[2, 3, 4, 8, 10, 11, 35, 36, 37], [4, 8, 34, 49], [(11, none, 49, 1)]⟩) (H := fun (s : Int × (List Int)) => match s with | (p11, p12) => (⟨(und 2 ++ ([.one (.v (.int .i64 a2)), .one (.v (.int .u64 a3)), .ptr 4 0 0 0 2] ++ (und 3 ++ ([.ptr 8 0 0 0 2] ++ (und 1 ++ ([.one (.ms 34 0 0 (y28.length) 1), .one (.ms 49 0 0 (p12.length) 1)] ++ (und 23 ++ ([.one (.ms 34 0 0 (y28.length) 1), .one (.v (.int .i64 (y28.length : Int))), .one (.v (.int .i64 p11))] ++ (und 19)))))))) : List PV), ([(4, ⟨0, 2, [arC .u64 a0], false, false⟩), (8, ⟨0, 2, [[.v (.int .i64 0), .slice .nil []]], false, false⟩), (34, ⟨0, 1, List.map Ym y28, false, true⟩), (49, ⟨0, 1, Zi .u64 p12, false, true⟩)] : Boxes)⟩ : ASt)) (by kernel_rfl) hr (by simp [und, List.replicate, c23, c23M, c24, c25, c26, c27]) ?_
      rintro ⟨p11, p12⟩ x36r hr36
      simp only [Zbz] at hr36
      unfold b18_1
      simp only [und, List.replicate, List.cons_append, List.nil_append]
      refine Za rfl (by simp [c23, c23M, c24, c25, c26, c27]; rfl) ?_
      by_cases c37 : p11 < (y28.length : Int)
      ·skip
       have c37N := c37
       try simp at c37N
       first | have c37M : (_ = _) = True := eq_true c37N | have c37M := c37N
       rw [if_pos] at hr36
       rotate_left
       ·simp [c23, c23M, c24, c25, c26, c27, c37, c37M]
       refine Ze (by simp [bV, c23, c23M, c24, c25, c26, c27, c37, c37M]) ?_
       refine Zh ?_
       refine Zk ?_
       obtain ⟨j38, hj38, hr36⟩ := bs hr36
       obtain ⟨j38a, j38b, j38c⟩ := Zm hj38
       obtain ⟨x39, hx39, hr36⟩ := bs hr36
       have ghx39 := Zq hx39
       refine Za rfl (by simp [j38a, j38b, j38c, hx39, ghx39, c23, c23M, c24, c25, c26, c27, c37, c37M]; rfl) ?_
       obtain ⟨y40, hy40, hr36⟩ := bs hr36
       have ehy40 := Zlz hy40
       simp only [E32, R32, nf, nfs] at ehy40
       obtain ⟨_, u41, hr36⟩ := bs hr36
       have u41_0 := Zp u41
       have n1_u41_0 : (p12.length + 1) * 8 ≤ 140737488355328 := by omega
       have n2_u41_0 : p12.length + 1 ≤ 9223372036854775807 := by omega
       refine ZA rfl (by simp [hO, hT32, ehy40, n1_u41_0, n2_u41_0, c23, c23M, c24, c25, c26, c27, c37, c37M]; rfl) ?_
       simp only [pq, reduceCtorEq]
       refine ZA rfl (by simp [c23, c23M, c24, c25, c26, c27, c37, c37M]; rfl) ?_
       obtain rfl := Option.some.inj hr36
       simp only [pq, reduceCtorEq]
       simp [und, List.replicate, Nat.add_assoc, c23, c23M, c24, c25, c26, c27, c37, c37M]
      ·skip
       have c37N := c37
       try simp at c37N
       first | have c37M : (_ = _) = True := eq_true c37N | have c37M := c37N
       rw [if_neg] at hr36
       rotate_left
       ·simp [c23, c23M, c24, c25, c26, c27, c37, c37M]
       refine Zg (by simp [bV, c23, c23M, c24, c25, c26, c27, c37, c37M]) ?_
       refine Zo ?_
       obtain ⟨r42, q42, rfl⟩ := ms hr36
       simp only [pq, reduceCtorEq]
       rintro rfl
       try simp only [pq, reduceCtorEq]
       unfold Zdf at q42
       obtain ⟨y43, hy43, q42⟩ := bs q42
       have ehy43 := ZlA hy43
       simp only [E33, R33, nf, nfs] at ehy43
       obtain ⟨y44, hy44, q42⟩ := bs q42
       have ehy44 := Zoc hy44
       simp only [E14, R14, nf, nfs] at ehy44
       refine Za rfl (by simp [hO, hT33, ehy43, hT14, ehy44, c23, c23M, c24, c25, c26, c27, c37, c37M]; rfl) ?_
       refine Zx ?_
       obtain rfl := Option.some.inj q42
       simp [Zn, hO, hT33, ehy43, hT14, ehy44, c23, c23M, c24, c25, c26, c27, c37, c37M, c23N, c37N]
end Go.Proofs.Ytmjbklblgpnagaa
