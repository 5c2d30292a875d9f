import Derived.Test.YtlfnplkjbejekaaVZ
import Derived.Test.YtlfnplkjbejekaaL1
import Derived.Test.YtlfnplkjbejekaaL2
import Derived.Test.YtlfnplkjbejekaaL4
import Derived.Test.YtlfnplkjbejekaaAvP4
namespace Go.Proofs.Ytlfnplkjbejekaa.V
open Go.RowKit
open Go.Av hiding iP bP
set_option linter.unusedVariables false
set_option maxRecDepth 100000
abbrev G0 : Glob := fun _ => none
noncomputable def G7 := lift (fun _ : Unit => []) fun _ => some (bW true, [])
theorem v7 : Impl Try.prog G0 7 G7 := impl_of (T := Av.tab [(9, G9), (12, G12), (14, G14), (16, G16), (18, G18)]) mixed htt (Av.tab_ok ⟨v9, v12, v14, v16, v18, trivial⟩) Try.func7 body7 (by kernel_rfl) fun ps r ho hF => by
  obtain ⟨x, rfl, h⟩ := lift_inv hF
  injection h with h
  subst h
  exact ⟨_, _, _, w7 rfl rfl rfl rfl rfl⟩
theorem i7 : Ab.Impl Try.prog 7 F7 := by
  refine ⟨v7.1, fun S w ps vs r hs hd hr hF => ?_⟩
  unfold F7 at hF
  split at hF
  · injection hF with hF
    subst hF
    cases hr
    refine (v7.2 S w [] [] [] _ [] glob_none hs .nil List.nodup_nil (lift_eq (enc := fun _ : Unit => []) (fun _ _ _ => rfl) ())).mono ?_
    rintro e w' ⟨v, S', its, rfl, hr, _, _, hgr⟩
    have hv : v = .bool true := by
      cases hr with
      | base hr => cases hr with
        | one hr => cases hr with
          | pure hr => cases hr; rfl
    subst hv
    exact ⟨_, S', rfl, .base (.one (.v _ rfl (by simp))), ⟨⟨hgr.keep.os, hgr.keep.tape, hgr.keep.output, hgr.keep.size, fun b hb => hgr.keep.block b hb (by simp)⟩, hgr.mono, hgr.fresh, hgr.slt⟩⟩
  · simp at hF
open Classical in
noncomputable def lw {α : Type} (e : α → List Ab.PV) (ps : List Ab.PV) : Option Ab.PV := if ∃ a, e a = ps then some (bP true) else none
theorem lw_inv {α : Type} {e : α → List Ab.PV} {ps : List Ab.PV} {r : Ab.PV} (h : lw e ps = some r) : ∃ a, ps = e a ∧ r = bP true := by
  unfold lw at h
  split at h
  · rename_i hc
    obtain ⟨a, ha⟩ := hc
    injection h with h
    exact ⟨a, ha.symm, h.symm⟩
  · simp at h
theorem lw_eq {α : Type} (e : α → List Ab.PV) (a : α) : lw e (e a) = some (bP true) := by
  unfold lw
  rw [if_pos ⟨a, rfl⟩]
abbrev A3 := { x : Int × Hs × Int × List Cl × Dis // In64 x.1 ∧ In64 x.2.2.1 }
def e3 (x : A3) : List Ab.PV := [iP x.1.1, .agg (hC x.1.2.1), iP x.1.2.2.1, lsP x.1.2.2.2.1, .agg (disC x.1.2.2.2.2)]
def E3 (x : A3) : List PV := [iV x.1.1, .agg (hV x.1.2.1), iV x.1.2.2.1, lsV x.1.2.2.2.1, .agg (disV x.1.2.2.2.2)]
def e4 (x : Dis × List Cl) : List Ab.PV := [.agg (disC x.1), lsP x.2]
def E4 (x : Dis × List Cl) : List PV := [.agg (disV x.1), lsV x.2]
abbrev A5 := { x : Dis × List Cl // In64 x.1.lo ∧ In64 x.1.hi }
def e5 (x : A5) : List Ab.PV := [.agg (disC x.1.1), lsP x.1.2]
def E5 (x : A5) : List PV := [.agg (disV x.1.1), lsV x.1.2]
abbrev A6 := { x : Dis × Hs × Int // (0 ≤ x.2.2 ∧ x.2.2 ≤ 255) ∧ x.1.cl.length ≤ 9223372036854775807 }
def e6 (x : A6) : List Ab.PV := [.agg (disC x.1.1), .agg (hC x.1.2.1), .one (.v (.int .u8 x.1.2.2))]
def E6 (x : A6) : List PV := [.agg (disV x.1.1), .agg (hV x.1.2.1), .one (.v (.int .u8 x.1.2.2))]
theorem i3 : Ab.Impl Try.prog 3 (lw e3) := Ab.impl_of (T := Ytlfnplkjbejekaa.tab [(7, F7), (8, F8), (9, F9), (10, F9), (11, F11), (12, F12), (13, F12), (14, F14), (15, F14), (16, F16), (17, F16)]) Ytlfnplkjbejekaa.mixed Ytlfnplkjbejekaa.htt (Ytlfnplkjbejekaa.tab_ok ⟨i7, impl8, impl9, impl10, impl11, impl12, impl13, impl14, impl15, impl16, impl17, trivial⟩) Try.func3 Ytlfnplkjbejekaa.body3 (by kernel_rfl) okc3 fun ps r ho hF => by
  obtain ⟨x, rfl, rfl⟩ := lw_inv hF
  exact ⟨_, _, w3 _ _ _ _ _ x.2.1 x.2.2 rfl rfl rfl rfl rfl rfl rfl rfl rfl rfl rfl⟩
theorem i4 : Ab.Impl Try.prog 4 (lw e4) := Ab.impl_of (T := Ytlfnplkjbejekaa.tab [(7, F7), (8, F8), (18, F18), (19, F18), (11, F11), (20, F20)]) Ytlfnplkjbejekaa.mixed Ytlfnplkjbejekaa.htt (Ytlfnplkjbejekaa.tab_ok ⟨i7, impl8, impl18, impl19, impl11, impl20, trivial⟩) Try.func4 Ytlfnplkjbejekaa.body4 (by kernel_rfl) okc4 fun ps r ho hF => by
  obtain ⟨x, rfl, rfl⟩ := lw_inv hF
  exact ⟨_, _, w4 _ _ rfl rfl rfl rfl rfl rfl⟩
theorem i5 : Ab.Impl Try.prog 5 (lw e5) := Ab.impl_of (T := Ytlfnplkjbejekaa.tab [(7, F7), (8, F8), (12, F12), (18, F18), (14, F14), (16, F16)]) Ytlfnplkjbejekaa.mixed Ytlfnplkjbejekaa.htt (Ytlfnplkjbejekaa.tab_ok ⟨i7, impl8, impl12, impl18, impl14, impl16, trivial⟩) Try.func5 Ytlfnplkjbejekaa.body5 (by kernel_rfl) okc5 fun ps r ho hF => by
  obtain ⟨x, rfl, rfl⟩ := lw_inv hF
  exact ⟨_, _, w5 _ _ x.2.1 x.2.2 rfl rfl rfl rfl rfl rfl⟩
theorem i6 : Ab.Impl Try.prog 6 (lw e6) := Ab.impl_of (T := Ytlfnplkjbejekaa.tab [(7, F7), (8, F8), (21, F21), (22, F21), (11, F11), (20, F20)]) Ytlfnplkjbejekaa.mixed Ytlfnplkjbejekaa.htt (Ytlfnplkjbejekaa.tab_ok ⟨i7, impl8, impl21, impl22, impl11, impl20, trivial⟩) Try.func6 Ytlfnplkjbejekaa.body6 (by kernel_rfl) okc6 fun ps r ho hF => by
  obtain ⟨x, rfl, rfl⟩ := lw_inv hF
  exact ⟨_, _, w6 _ _ _ x.2.1 x.2.2 rfl rfl rfl rfl rfl rfl⟩
theorem v3 : Impl Try.prog G0 3 (lift E3 fun _ => some (bW true, [])) := Tr.impl i3 (fun x => .cons (eqv_i _) (.cons (.agg (eqv_h _)) (.cons (eqv_i _) (.cons (.one (eqv_row _)) (.cons (.agg (eqv_dis _)) .nil))))) (r1 := fun _ => bP true) (lw_eq e3) fun _ => .base (eqv_b _)
theorem v4 : Impl Try.prog G0 4 (lift E4 fun _ => some (bW true, [])) := Tr.impl i4 (fun x => .cons (.agg (eqv_dis _)) (.cons (.one (eqv_row _)) .nil)) (r1 := fun _ => bP true) (lw_eq e4) fun _ => .base (eqv_b _)
theorem v5 : Impl Try.prog G0 5 (lift E5 fun _ => some (bW true, [])) := Tr.impl i5 (fun x => .cons (.agg (eqv_dis _)) (.cons (.one (eqv_row _)) .nil)) (r1 := fun _ => bP true) (lw_eq e5) fun _ => .base (eqv_b _)
theorem v6 : Impl Try.prog G0 6 (lift E6 fun _ => some (bW true, [])) := Tr.impl i6 (fun x => .cons (.agg (eqv_dis _)) (.cons (.agg (eqv_h _)) (.cons (.one (.v _)) .nil))) (r1 := fun _ => bP true) (lw_eq e6) fun _ => .base (eqv_b _)
/-! the laws at an input -/
section
variable {w : World}
theorem lift_true {α : Type} {e : α → List PV} (a : α) : lift e (fun _ => some (bW true, [])) (e a) = some (bW true, []) := by
  unfold lift
  split
  · rfl
  · rename_i h
    exact absurd ⟨a, rfl⟩ h
/-! reading the arguments -/
theorem ty_h {n : Nat} {cs : List Cell} (h : Typed tt (n + 2) 23 cs) : ∃ a : Hs, cs = hV a := by
  obtain ⟨a, rfl, _⟩ := Typed.arr h tt23 rfl tt5 rfl
  exact ⟨⟨a.l, a.hl⟩, rfl⟩
theorem ty_cl {n : Nat} {cs : List Cell} (h : Typed tt (n + 3) 45 cs) : ∃ a : Cl, cs = clV a ∧ True := by
  obtain ⟨a, b, rfl, h1, c, d, rfl, h2, rfl⟩ := Typed.fs h tt45 rfl
  obtain ⟨x, rfl, _⟩ := Typed.int h1 tt3 rfl
  obtain ⟨y, rfl⟩ := ty_h h2
  exact ⟨⟨x, y⟩, by simp [clV], trivial⟩
theorem ty_row {n : Nat} {cs : List Cell} (h : Typed tt (n + 4) 24 cs) : ∃ L : List Cl, cs = [.slice .no (L.map clV)] ∧ L.length ≤ maxLen := by
  obtain ⟨L, h1, h2, _⟩ := Typed.row h tt24 rfl fun l hl => ty_cl hl
  exact ⟨L, h1, h2⟩
theorem ty_dis {n : Nat} {cs : List Cell} (h : Typed tt (n + 5) 26 cs) : ∃ d : Dis, cs = disV d ∧ In64 d.lo ∧ In64 d.hi ∧ d.cl.length ≤ maxLen := by
  obtain ⟨a, _, rfl, h1, b, _, rfl, h2, c, _, rfl, h3, d, _, rfl, h4, rfl⟩ := Typed.fs h tt26 rfl
  obtain ⟨x, rfl, hx⟩ := Typed.int h1 tt3 rfl
  obtain ⟨y, rfl, hy⟩ := Typed.int h2 tt3 rfl
  obtain ⟨z, rfl⟩ := ty_h h3
  obtain ⟨L, rfl, hL⟩ := ty_row h4
  exact ⟨⟨x, y, z, L⟩, by simp [disV], wf_i64 hx, wf_i64 hy, hL⟩
variable {H : Type} {enc : TypeId × Value → H} {W : World} {base b0 : Nat} {spare : Nat → Bool} {held : Bool} {r : Reach} {v : Value} {d : DataW H} {ps : List MemPlace}
theorem arg_i (hv : Value.okWide Try.prog W r b0 3 v) (h : DataW.Trod enc Try.prog w base spare held 3 v d ps) : ∃ x, RepL (fun b _ => b < w.heap.size) w [.v (.int .i64 x)] [v] ∧ In64 x := by
  obtain ⟨cells, h1, h2⟩ := open_int htt 1 (by kernel_rfl) Try.underlying3 hv h
  obtain ⟨x, rfl, hx⟩ := Typed.int h2 tt3 rfl
  exact ⟨x, h1, wf_i64 hx⟩
theorem arg_u8 (hv : Value.okWide Try.prog W r b0 5 v) (h : DataW.Trod enc Try.prog w base spare held 5 v d ps) : ∃ x, RepL (fun b _ => b < w.heap.size) w [.v (.int .u8 x)] [v] ∧ 0 ≤ x ∧ x ≤ 255 := by
  obtain ⟨cells, h1, h2⟩ := open_int htt 1 (by kernel_rfl) Try.underlying5 hv h
  obtain ⟨x, rfl, hx⟩ := Typed.int h2 tt5 rfl
  exact ⟨x, h1, wf_u8 hx⟩
theorem arg_h (hv : Value.okWide Try.prog W r b0 23 v) (h : DataW.Trod enc Try.prog w base spare held 23 v d ps) : ∃ x cs, v = .agg cs ∧ RepL (fun b _ => b < w.heap.size) w (hV x) cs.toList := by
  obtain ⟨cells, cs, rfl, h1, h2⟩ := open_array htt 3 (by kernel_rfl) Try.underlying23 hv h
  obtain ⟨x, rfl⟩ := ty_h h2
  exact ⟨x, cs, rfl, h1⟩
theorem arg_row (hv : Value.okWide Try.prog W r b0 24 v) (h : DataW.Trod enc Try.prog w base spare held 24 v d ps) : ∃ L : List Cl, RepL (fun b _ => b < w.heap.size) w [.slice .no (L.map clV)] [v] ∧ L.length ≤ maxLen := by
  obtain ⟨cells, h1, h2⟩ := open_slice htt 4 (by kernel_rfl) Try.underlying24 hv h
  obtain ⟨x, rfl, hx⟩ := ty_row h2
  exact ⟨x, h1, hx⟩
theorem arg_dis (hv : Value.okWide Try.prog W r b0 26 v) (h : DataW.Trod enc Try.prog w base spare held 26 v d ps) : ∃ x cs, v = .agg cs ∧ RepL (fun b _ => b < w.heap.size) w (disV x) cs.toList ∧ In64 x.lo ∧ In64 x.hi ∧ x.cl.length ≤ maxLen := by
  obtain ⟨cells, cs, rfl, h1, h2⟩ := open_struct htt 5 (by kernel_rfl) Try.underlying26 hv h
  obtain ⟨x, rfl, hx⟩ := ty_dis h2
  exact ⟨x, cs, rfl, h1, hx⟩
theorem run3 {v0 v1 v2 v3 v4 : Value} {d0 d1 d2 d3 d4 : DataW H} {p0 p1 p2 p3 p4 : List MemPlace} (o0 : Value.okWide Try.prog W r b0 3 v0) (o1 : Value.okWide Try.prog W r b0 23 v1) (o2 : Value.okWide Try.prog W r b0 3 v2) (o3 : Value.okWide Try.prog W r b0 24 v3) (o4 : Value.okWide Try.prog W r b0 26 v4)
    (h0 : DataW.Trod enc Try.prog w base spare held 3 v0 d0 p0) (h1 : DataW.Trod enc Try.prog w base spare held 23 v1 d1 p1) (h2 : DataW.Trod enc Try.prog w base spare held 3 v2 d2 p2) (h3 : DataW.Trod enc Try.prog w base spare held 24 v3 d3 p3) (h4 : DataW.Trod enc Try.prog w base spare held 26 v4 d4 p4) :
    Calls Try.prog 3 #[v0, v1, v2, v3, v4] w fun e w' => e = .returned (.bool true) ∧ Below w.heap.size w w' := by
  obtain ⟨x0, r0, n0⟩ := arg_i o0 h0
  obtain ⟨x1, c1, rfl, r1⟩ := arg_h o1 h1
  obtain ⟨x2, r2, n2⟩ := arg_i o2 h2
  obtain ⟨x3, r3, n3⟩ := arg_row o3 h3
  obtain ⟨x4, c4, rfl, r4, n4⟩ := arg_dis o4 h4
  exact law_of V.v3 glob_none (fun b o h => h) (args_one r0 (args_agg r1 (args_one r2 (args_one r3 (args_agg r4 .nil))))) (lift_true (e := E3) ⟨(x0, x1, x2, x3, x4), n0, n2⟩)
theorem run4 {v0 v1 : Value} {d0 d1 : DataW H} {p0 p1 : List MemPlace} (o0 : Value.okWide Try.prog W r b0 26 v0) (o1 : Value.okWide Try.prog W r b0 24 v1)
    (h0 : DataW.Trod enc Try.prog w base spare held 26 v0 d0 p0) (h1 : DataW.Trod enc Try.prog w base spare held 24 v1 d1 p1) :
    Calls Try.prog 4 #[v0, v1] w fun e w' => e = .returned (.bool true) ∧ Below w.heap.size w w' := by
  obtain ⟨x0, c0, rfl, r0, n0⟩ := arg_dis o0 h0
  obtain ⟨x1, r1, n1⟩ := arg_row o1 h1
  exact law_of v4 glob_none (fun b o h => h) (args_agg r0 (args_one r1 .nil)) (lift_true (e := E4) (x0, x1))
theorem run5 {v0 v1 : Value} {d0 d1 : DataW H} {p0 p1 : List MemPlace} (o0 : Value.okWide Try.prog W r b0 26 v0) (o1 : Value.okWide Try.prog W r b0 24 v1)
    (h0 : DataW.Trod enc Try.prog w base spare held 26 v0 d0 p0) (h1 : DataW.Trod enc Try.prog w base spare held 24 v1 d1 p1) :
    Calls Try.prog 5 #[v0, v1] w fun e w' => e = .returned (.bool true) ∧ Below w.heap.size w w' := by
  obtain ⟨x0, c0, rfl, r0, n0⟩ := arg_dis o0 h0
  obtain ⟨x1, r1, n1⟩ := arg_row o1 h1
  exact law_of v5 glob_none (fun b o h => h) (args_agg r0 (args_one r1 .nil)) (lift_true (e := E5) ⟨(x0, x1), n0.1, n0.2.1⟩)
theorem run6 {v0 v1 v2 : Value} {d0 d1 d2 : DataW H} {p0 p1 p2 : List MemPlace} (o0 : Value.okWide Try.prog W r b0 26 v0) (o1 : Value.okWide Try.prog W r b0 23 v1) (o2 : Value.okWide Try.prog W r b0 5 v2)
    (h0 : DataW.Trod enc Try.prog w base spare held 26 v0 d0 p0) (h1 : DataW.Trod enc Try.prog w base spare held 23 v1 d1 p1) (h2 : DataW.Trod enc Try.prog w base spare held 5 v2 d2 p2) :
    Calls Try.prog 6 #[v0, v1, v2] w fun e w' => e = .returned (.bool true) ∧ Below w.heap.size w w' := by
  obtain ⟨x0, c0, rfl, r0, n0⟩ := arg_dis o0 h0
  obtain ⟨x1, c1, rfl, r1⟩ := arg_h o1 h1
  obtain ⟨x2, r2, n2⟩ := arg_u8 o2 h2
  exact law_of v6 glob_none (fun b o h => h) (args_agg r0 (args_agg r1 (args_one r2 .nil))) (lift_true (e := E6) ⟨(x0, x1, x2), n2, by have := n0.2.2; unfold maxLen at this; omega⟩)
end
end Go.Proofs.Ytlfnplkjbejekaa.V
