import Derived.Test.YtipochhfofhofaaDoorCode
import Derived.Test.YtipochhfofhofaaDoorAvP4
namespace Go.Proofs.YtipochhfofhofaaDoor
open Go.RowKit
open Go.Av
set_option maxRecDepth 100000
set_option linter.unusedSimpArgs false
set_option linter.unusedVariables false
attribute [simp] tt3 ti3 tt4 ti4 tt5 ti5 tt26 ti26 tt43 ti43 tt60 ti60 tt61 ti61 tt67 ti67 tt70 ti70 tt72 ti72 tt74 ti74 tt75 ti75 tt65 ti65
theorem wrap_nn {k : IntKind} (h : k.signed = false) (x : Int) : 0 ≤ k.wrap x := by
  cases k <;> simp [IntKind.signed] at h <;> simp [IntKind.wrap, IntKind.signed, IntKind.bits] <;> omega
theorem bits_nn {k : IntKind} (h : k.signed = false) (op : BinOp) (x y : Int) : 0 ≤ bits op k x y := wrap_nn h _
def kp0 : Keep := fun _ => ⟨[], [], []⟩
abbrev uP (x : Int) : PV := .one (.v (.int .u32 x))
/-- math/bits.RotateLeft32 -/
def rot (x n : Int) : Int := bits .or .u32 (IntKind.u32.wrap (x * 2 ^ (min (bits .and .u64 (IntKind.u64.wrap n) 31).toNat 32))) (x.fdiv (2 ^ (min (IntKind.u64.wrap (32 - bits .and .u64 (IntKind.u64.wrap n) 31)).toNat 32)))
variable {G : Glob}
section
variable {T : Tab}
theorem w70 (x n : Int) : execFn tt T G kp0 false 0 Tryd.f70 [uP x, iP n] = some (uP (rot x n), []) := by
  refine fn_ends body70 ?_
  unfold c70
  rw [Tryd.ntmps70]
  have h1 : ¬ bits .and .u64 (IntKind.u64.wrap n) 31 < 0 := by have := bits_nn (k := .u64) rfl .and (IntKind.u64.wrap n) 31; omega
  have h2 : ¬ IntKind.u64.wrap (32 - bits .and .u64 (IntKind.u64.wrap n) 31) < 0 := by have := wrap_nn (k := .u64) rfl (32 - bits .and .u64 (IntKind.u64.wrap n) 31); omega
  refine en_seq_reg rfl (by simp; rfl) ?_
  refine en_seq_reg rfl (by simp; rfl) ?_
  refine en_seq_reg rfl (by simp [h1, h2]; rfl) ?_
  refine en_ret ?_
  simp
  rfl
end
def G70 : List PV → Option (PV × List (List Cell))
  | [.one (.v (.int .u32 x)), .one (.v (.int .i64 n))] => some (uP (rot x n), [])
  | _ => none
theorem v70 : Impl Tryd.prog G 70 G70 := impl_of (T := Av.tab []) mixed htt (Av.tab_ok trivial) Tryd.func70 body70 (by kernel_rfl) fun ps r ho hF => by
  unfold G70 at hF
  split at hF
  · injection hF with hF
    subst hF
    exact ⟨_, _, _, w70 _ _⟩
  · simp at hF
/-- rotr -/
def rr (x n : Int) : Int := rot x (IntKind.i64.wrap (-n))
def G66 : List PV → Option (PV × List (List Cell))
  | [.one (.v (.int .u32 x)), .one (.v (.int .i64 n))] => some (uP (rr x n), [])
  | _ => none
section
variable {T : Tab}
theorem w66 (x n : Int) (h70 : T 70 = some G70) : execFn tt T G kp0 false 0 Tryd.f66 [uP x, iP n] = some (uP (rr x n), []) := by
  refine fn_ends body66 ?_
  unfold c66
  rw [Tryd.ntmps66]
  refine en_seq_reg rfl (by simp; rfl) ?_
  refine en_seq_reg rfl (by simp [h70, G70]; rfl) ?_
  refine en_ret ?_
  simp
  rfl
theorem w69 (x n : Int) (h70 : T 70 = some G70) : execFn tt T G kp0 false 0 Tryd.f69 [uP x, iP n] = some (uP (rr x n), []) := by
  refine fn_ends body69 ?_
  unfold c69
  rw [Tryd.ntmps69]
  refine en_seq_reg rfl (by simp; rfl) ?_
  refine en_seq_reg rfl (by simp [h70, G70]; rfl) ?_
  refine en_ret ?_
  simp
  rfl
end
theorem v66 : Impl Tryd.prog G 66 G66 := impl_of (T := Av.tab [(70, G70)]) mixed htt (Av.tab_ok ⟨v70, trivial⟩) Tryd.func66 body66 (by kernel_rfl) fun ps r ho hF => by
  unfold G66 at hF
  split at hF
  · injection hF with hF
    subst hF
    exact ⟨_, _, _, w66 _ _ rfl⟩
  · simp at hF
theorem v69 : Impl Tryd.prog G 69 G66 := impl_of (T := Av.tab [(70, G70)]) mixed htt (Av.tab_ok ⟨v70, trivial⟩) Tryd.func69 body69 (by kernel_rfl) fun ps r ho hF => by
  unfold G66 at hF
  split at hF
  · injection hF with hF
    subst hF
    exact ⟨_, _, _, w69 _ _ rfl⟩
  · simp at hF
end Go.Proofs.YtipochhfofhofaaDoor
