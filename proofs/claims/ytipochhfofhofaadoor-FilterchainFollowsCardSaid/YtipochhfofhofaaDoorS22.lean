import Derived.Test.YtipochhfofhofaaDoorS21
import Derived.Test.YtipochhfofhofaaDoorRows
import Derived.Test.YtipochhfofhofaaDoorAvP4
import Derived.ProofKit
import Derived.LaidMore
import Derived.OpenShut
namespace Go.Proofs.YtipochhfofhofaaDoor
open Go.RowKit
open Go.Av
set_option maxRecDepth 100000
set_option linter.unusedSimpArgs false
set_option linter.unusedVariables false
def GG : Glob := fun g => if g = 0 then some (arC .u32 iniA) else if g = 1 then some (arC .u32 kA) else none
theorem gg0 : GG 0 = some (arC .u32 iniA) := rfl
theorem gg1 : GG 1 = some (arC .u32 kA) := rfl
theorem trod_ints {H : Type} {enc : TypeId × Value → H} {P : Program} {w : World} {base : Nat} {spare : Nat → Bool} {held : Bool} {fuel n : Nat} {t e : TypeId} {k : IntKind} {l : List Int} {cs : List Value} {x : DataW H × List MemPlace}
    (ht : P.underlying t = some (.array n e)) (he : P.underlying e = some (.int k)) (hc : P.cellsOf e = 1) (hct : P.cellsOf t = n) (h : DataW.trod enc P w base spare held fuel t cs = some x) (hx : x.1 = .agg (l.map fun i => .lit (.int k i))) : cs = l.map (Value.int k) := by
  obtain ⟨xs, m, rfl, rfl, hl, hn, hel⟩ := DataW.trod_array ht h
  simp only [DataW.agg.injEq] at hx
  have hlen : l.length = n := by
    have := congrArg List.length hx
    simpa [hn] using this.symm
  apply List.ext_getElem?
  intro i
  by_cases hi : i < n
  · have h0 := hel i hi
    rw [hc, Nat.mul_one] at h0
    have hxi : xs[i]? = some (xs[i]'(by omega)) := List.getElem?_eq_getElem (by omega)
    rw [hxi] at h0
    obtain ⟨v, e1, e2, _⟩ := DataW.trod_int he h0
    have e3 : (xs.map (·.1))[i]? = (l.map fun i => (DataW.lit (.int k i) : DataW H))[i]? := by rw [hx]
    rw [List.getElem?_map, hxi, List.getElem?_map, List.getElem?_eq_getElem (by omega : i < l.length), e2] at e3
    simp at e3
    have e4 : cs[i]? = some (.int k v) := by
      have : ((cs.drop i).take 1)[0]? = some (.int k v) := by rw [e1]; rfl
      simpa using this
    rw [e4, List.getElem?_map, List.getElem?_eq_getElem (by omega : i < l.length), e3]
    rfl
  · rw [List.getElem?_eq_none (by omega), List.getElem?_eq_none (by simp; omega)]
theorem lies_var {P : Program} {w : World} {nm : String} {g : Nat} {cs : Array Value} (hg : P.globalNamed nm = some g) (h : w.var? P nm = some cs) : Lies w g 0 cs.toList := by
  intro j u hu
  rw [Nat.zero_add, World.var?_cell hg h j]
  simpa using hu
theorem rep_ints {S : Nat → Nat → Prop} {w : World} {k : IntKind} : ∀ l : List Int, RepL S w (ints k l) (l.map (Value.int k))
  | [] => .nil
  | x :: l => .cons (.v _ rfl (by intros; simp)) (rep_ints l)
theorem gInit : Tryd.prog.globalNamed "lightclient/sha.initial" = some 0 := by kernel_rfl
theorem gK : Tryd.prog.globalNamed "lightclient/sha.k" = some 1 := by kernel_rfl
theorem tInit : (Tryd.prog.globals[0]?).map (·.type) = some 70 := by kernel_rfl
theorem tK : (Tryd.prog.globals[1]?).map (·.type) = some 75 := by kernel_rfl
abbrev laid2 : List (String × DataW Unit) := [("lightclient/sha.k", Rows.laid_lightclient_sha_k), ("lightclient/sha.initial", Rows.laid_lightclient_sha_initial)]
theorem kD : (Rows.laid_lightclient_sha_k : DataW Unit) = .agg (kA.l.map fun i => .lit (.int .u32 i)) := rfl
theorem iD : (Rows.laid_lightclient_sha_initial : DataW Unit) = .agg (iniA.l.map fun i => .lit (.int .u32 i)) := rfl
theorem cell_lt {w : World} {a : Addr} {v : Value} (h : w.cell? a = some v) : a.block < w.heap.size := (spot_none h).2
theorem glob_laid {W : World} (h : laidMetH Tryd.prog laid2 W) : GlobOk GG (fun b _ => b < W.heap.size) W := by
  rw [MakeChecks.laidMetH_plain _ _ _ (by kernel_rfl)] at h
  obtain ⟨ps, ⟨g0, t0, cs0, f0, p0, q0, hg0, ht0, hv0, hd0, ⟨g1, t1, cs1, f1, p1, q1, hg1, ht1, hv1, hd1, _, _⟩, _⟩, _, _⟩ := h
  obtain rfl := Option.some.inj (gK.symm.trans hg0)
  obtain rfl := Option.some.inj (gInit.symm.trans hg1)
  obtain rfl := Option.some.inj (tK.symm.trans ht0)
  obtain rfl := Option.some.inj (tInit.symm.trans ht1)
  have e0 := trod_ints (k := .u32) (l := kA.l) Tryd.underlying75 Tryd.underlying67 (by kernel_rfl) (by kernel_rfl) hd0 kD
  have e1 := trod_ints (k := .u32) (l := iniA.l) Tryd.underlying70 Tryd.underlying67 (by kernel_rfl) (by kernel_rfl) hd1 iD
  have l0 := lies_var hg0 hv0
  have l1 := lies_var hg1 hv1
  rw [e0] at l0
  rw [e1] at l1
  intro g cs hg
  unfold GG at hg
  split at hg
  · subst_vars
    injection hg with hg
    subst hg
    refine ⟨_, rep_ints iniA.l, fun j hj => ?_, l1⟩
    have := l1 j _ (List.getElem?_eq_getElem hj)
    exact cell_lt this
  · split at hg
    · subst_vars
      injection hg with hg
      subst hg
      refine ⟨_, rep_ints kA.l, fun j hj => ?_, l0⟩
      have := l0 j _ (List.getElem?_eq_getElem hj)
      exact cell_lt this
    · cases hg
def E3 (x : (Hs × Hs) × Hs × Hs × Arr 32) : List PV := [fcP x.1.1 x.1.2, .one (hxC x.2.1), .one (hxC x.2.2.1), .agg (arC .u8 x.2.2.2)]
abbrev A4 := { x : (Hs × Hs) × Int × Hs × Hs // x.2.1 ≤ 9223372036854775807 }
def E4 (x : A4) : List PV := [fcP x.1.1.1 x.1.1.2, iP x.1.2.1, .one (hxC x.1.2.2.1), .one (hxC x.1.2.2.2)]
def E5 (x : (Hs × Hs) × Int × Hs) : List PV := [fcP x.1.1 x.1.2, iP x.2.1, .one (hxC x.2.2)]
abbrev A6 := { x : (Hs × Hs) × Hs × Hs × Nat // x.2.2.2 ≤ 255 }
def E6 (x : A6) : List PV := [fcP x.1.1.1 x.1.1.2, .one (hxC x.1.2.1), .one (hxC x.1.2.2.1), .one (.v (.int .u8 x.1.2.2.2))]
noncomputable def lw {α : Type} (e : α → List PV) : List PV → Option (PV × List (List Cell)) := lift e fun _ => some (bV true, [])
theorem lw_true {α : Type} {e : α → List PV} (a : α) : lw e (e a) = some (bV true, []) := by
  unfold lw lift
  split
  · rfl
  · rename_i h
    exact absurd ⟨a, rfl⟩ h
theorem v3 : Impl Tryd.prog GG 3 (lw E3) := impl_of (T := Av.tab [(8, G8), (9, G9), (10, G10), (11, G11), (12, G11), (13, G13), (14, G13), (15, G15), (16, G16), (17, G16), (18, G18)]) mixed htt (Av.tab_ok ⟨v8 gg0 gg1, v9, v10, v11 gg0 gg1, v12, v13, v14, v15, v16 gg0 gg1, v17, v18, trivial⟩) Tryd.func3 body3 (by kernel_rfl) fun ps r ho hF => by
  obtain ⟨x, rfl, h⟩ := lift_inv hF
  injection h with h
  subst h
  exact ⟨_, _, _, w3 x.1.1 x.1.2 x.2.1 x.2.2.1 x.2.2.2 rfl rfl rfl rfl rfl rfl rfl rfl rfl rfl rfl⟩
theorem v4 : Impl Tryd.prog GG 4 (lw E4) := impl_of (T := Av.tab [(8, G8), (9, G9), (10, G10), (19, G19), (20, G19), (15, G15), (21, G36), (22, G36)]) mixed htt (Av.tab_ok ⟨v8 gg0 gg1, v9, v10, v19, v20, v15, v21, v22, trivial⟩) Tryd.func4 body4 (by kernel_rfl) fun ps r ho hF => by
  obtain ⟨x, rfl, h⟩ := lift_inv hF
  injection h with h
  subst h
  exact ⟨_, _, _, w4 x.1.1.1 x.1.1.2 x.1.2.2.1 x.1.2.2.2 x.1.2.1 x.2 rfl rfl rfl rfl rfl rfl rfl rfl⟩
theorem v5 : Impl Tryd.prog GG 5 (lw E5) := impl_of (T := Av.tab [(8, G8), (9, G9), (10, G10), (23, G23), (24, G23), (18, G18), (25, G25), (26, G25)]) mixed htt (Av.tab_ok ⟨v8 gg0 gg1, v9, v10, v23, v24, v18, v25, v26, trivial⟩) Tryd.func5 body5 (by kernel_rfl) fun ps r ho hF => by
  obtain ⟨x, rfl, h⟩ := lift_inv hF
  injection h with h
  subst h
  exact ⟨_, _, _, w5 x.1.1 x.1.2 x.2.2 x.2.1 rfl rfl rfl rfl rfl rfl rfl rfl⟩
theorem v6 : Impl Tryd.prog GG 6 (lw E6) := impl_of (T := Av.tab [(8, G8), (9, G9), (10, G10), (27, G27), (28, G27), (18, G18)]) mixed htt (Av.tab_ok ⟨v8 gg0 gg1, v9, v10, v27 gg0 gg1, v28, v18, trivial⟩) Tryd.func6 body6 (by kernel_rfl) fun ps r ho hF => by
  obtain ⟨x, rfl, h⟩ := lift_inv hF
  injection h with h
  subst h
  exact ⟨_, _, _, w6 x.1.1.1 x.1.1.2 x.1.2.1 x.1.2.2.1 x.1.2.2.2 x.2 rfl rfl rfl rfl rfl rfl⟩
/-! reading the arguments -/
theorem ty_h {n : Nat} {cs : List Cell} (h : Typed tt (n + 2) 26 cs) : ∃ a : Arr 32, cs = arC .u8 a ∧ True := by
  obtain ⟨a, rfl, _⟩ := Typed.arr h tt26 rfl tt5 rfl
  exact ⟨a, rfl, trivial⟩
theorem ty_hs {n : Nat} {cs : List Cell} (h : Typed tt (n + 3) 22 cs) : ∃ l : Hs, cs = [hxC l] := by
  obtain ⟨L, h1, h2, _⟩ := Typed.row h tt22 rfl fun l hl => ty_h hl
  exact ⟨L, h1⟩
theorem ty_fc {n : Nat} {cs : List Cell} (h : Typed tt (n + 4) 24 cs) : ∃ b h : Hs, cs = [hxC b, hxC h] := by
  obtain ⟨a, _, rfl, h1, b, _, rfl, h2, rfl⟩ := Typed.fs h tt24 rfl
  obtain ⟨x, rfl⟩ := ty_hs h1
  obtain ⟨y, rfl⟩ := ty_hs h2
  exact ⟨x, y, by simp⟩
section
variable {H : Type} {enc : TypeId × Value → H} {W w : World} {base b0 : Nat} {spare : Nat → Bool} {held : Bool} {r : Reach} {v : Value} {d : DataW H} {ps : List MemPlace}
theorem arg_i (hv : Value.okWide Tryd.prog W r b0 3 v) (h : DataW.Trod enc Tryd.prog w base spare held 3 v d ps) : ∃ x, RepL (fun b _ => b < w.heap.size) w [.v (.int .i64 x)] [v] ∧ -9223372036854775808 ≤ x ∧ x ≤ 9223372036854775807 := by
  obtain ⟨cells, h1, h2⟩ := open_int htt 1 (by kernel_rfl) Tryd.underlying3 hv h
  obtain ⟨x, rfl, hx⟩ := Typed.int h2 tt3 rfl
  exact ⟨x, h1, wf_i64 hx⟩
theorem arg_u8 (hv : Value.okWide Tryd.prog W r b0 5 v) (h : DataW.Trod enc Tryd.prog w base spare held 5 v d ps) : ∃ x, RepL (fun b _ => b < w.heap.size) w [.v (.int .u8 x)] [v] ∧ 0 ≤ x ∧ x ≤ 255 := by
  obtain ⟨cells, h1, h2⟩ := open_int htt 1 (by kernel_rfl) Tryd.underlying5 hv h
  obtain ⟨x, rfl, hx⟩ := Typed.int h2 tt5 rfl
  exact ⟨x, h1, wf_u8 hx⟩
theorem arg_h (hv : Value.okWide Tryd.prog W r b0 26 v) (h : DataW.Trod enc Tryd.prog w base spare held 26 v d ps) : ∃ (x : Arr 32) (cs : Array Value), v = .agg cs ∧ RepL (fun b _ => b < w.heap.size) w (arC .u8 x) cs.toList := by
  obtain ⟨cells, cs, rfl, h1, h2⟩ := open_array htt 3 (by kernel_rfl) Tryd.underlying26 hv h
  obtain ⟨x, rfl, _⟩ := ty_h h2
  exact ⟨x, cs, rfl, h1⟩
theorem arg_hs (hv : Value.okWide Tryd.prog W r b0 22 v) (h : DataW.Trod enc Tryd.prog w base spare held 22 v d ps) : ∃ L : Hs, RepL (fun b _ => b < w.heap.size) w [hxC L] [v] := by
  obtain ⟨cells, h1, h2⟩ := open_slice htt 4 (by kernel_rfl) Tryd.underlying22 hv h
  obtain ⟨x, rfl⟩ := ty_hs h2
  exact ⟨x, h1⟩
theorem arg_fc (hv : Value.okWide Tryd.prog W r b0 24 v) (h : DataW.Trod enc Tryd.prog w base spare held 24 v d ps) : ∃ x y cs, v = .agg cs ∧ RepL (fun b _ => b < w.heap.size) w [hxC x, hxC y] cs.toList := by
  obtain ⟨cells, cs, rfl, h1, h2⟩ := open_struct htt 5 (by kernel_rfl) Tryd.underlying24 hv h
  obtain ⟨x, y, rfl⟩ := ty_fc h2
  exact ⟨x, y, cs, rfl, h1⟩
theorem run3 {v0 v1 v2 v3 : Value} {d0 d1 d2 d3 : DataW H} {p0 p1 p2 p3 : List MemPlace} (hL : laidMetH Tryd.prog laid2 w) (o0 : Value.okWide Tryd.prog W r b0 24 v0) (o1 : Value.okWide Tryd.prog W r b0 22 v1) (o2 : Value.okWide Tryd.prog W r b0 22 v2) (o3 : Value.okWide Tryd.prog W r b0 26 v3)
    (h0 : DataW.Trod enc Tryd.prog w base spare held 24 v0 d0 p0) (h1 : DataW.Trod enc Tryd.prog w base spare held 22 v1 d1 p1) (h2 : DataW.Trod enc Tryd.prog w base spare held 22 v2 d2 p2) (h3 : DataW.Trod enc Tryd.prog w base spare held 26 v3 d3 p3) :
    Calls Tryd.prog 3 #[v0, v1, v2, v3] w fun e w' => e = .returned (.bool true) ∧ Below w.heap.size w w' := by
  obtain ⟨x0, y0, c0, rfl, r0⟩ := arg_fc o0 h0
  obtain ⟨x1, r1⟩ := arg_hs o1 h1
  obtain ⟨x2, r2⟩ := arg_hs o2 h2
  obtain ⟨x3, c3, rfl, r3⟩ := arg_h o3 h3
  exact law_of v3 (glob_laid hL) (fun b o h => h) (args_agg r0 (args_one r1 (args_one r2 (args_agg r3 .nil)))) (lw_true (e := E3) ((x0, y0), x1, x2, x3))
theorem run4 {v0 v1 v2 v3 : Value} {d0 d1 d2 d3 : DataW H} {p0 p1 p2 p3 : List MemPlace} (hL : laidMetH Tryd.prog laid2 w) (o0 : Value.okWide Tryd.prog W r b0 24 v0) (o1 : Value.okWide Tryd.prog W r b0 3 v1) (o2 : Value.okWide Tryd.prog W r b0 22 v2) (o3 : Value.okWide Tryd.prog W r b0 22 v3)
    (h0 : DataW.Trod enc Tryd.prog w base spare held 24 v0 d0 p0) (h1 : DataW.Trod enc Tryd.prog w base spare held 3 v1 d1 p1) (h2 : DataW.Trod enc Tryd.prog w base spare held 22 v2 d2 p2) (h3 : DataW.Trod enc Tryd.prog w base spare held 22 v3 d3 p3) :
    Calls Tryd.prog 4 #[v0, v1, v2, v3] w fun e w' => e = .returned (.bool true) ∧ Below w.heap.size w w' := by
  obtain ⟨x0, y0, c0, rfl, r0⟩ := arg_fc o0 h0
  obtain ⟨x1, r1, n1⟩ := arg_i o1 h1
  obtain ⟨x2, r2⟩ := arg_hs o2 h2
  obtain ⟨x3, r3⟩ := arg_hs o3 h3
  exact law_of v4 (glob_laid hL) (fun b o h => h) (args_agg r0 (args_one r1 (args_one r2 (args_one r3 .nil)))) (lw_true (e := E4) ⟨((x0, y0), x1, x2, x3), n1.2⟩)
theorem run5 {v0 v1 v2 : Value} {d0 d1 d2 : DataW H} {p0 p1 p2 : List MemPlace} (hL : laidMetH Tryd.prog laid2 w) (o0 : Value.okWide Tryd.prog W r b0 24 v0) (o1 : Value.okWide Tryd.prog W r b0 3 v1) (o2 : Value.okWide Tryd.prog W r b0 22 v2)
    (h0 : DataW.Trod enc Tryd.prog w base spare held 24 v0 d0 p0) (h1 : DataW.Trod enc Tryd.prog w base spare held 3 v1 d1 p1) (h2 : DataW.Trod enc Tryd.prog w base spare held 22 v2 d2 p2) :
    Calls Tryd.prog 5 #[v0, v1, v2] w fun e w' => e = .returned (.bool true) ∧ Below w.heap.size w w' := by
  obtain ⟨x0, y0, c0, rfl, r0⟩ := arg_fc o0 h0
  obtain ⟨x1, r1, n1⟩ := arg_i o1 h1
  obtain ⟨x2, r2⟩ := arg_hs o2 h2
  exact law_of v5 (glob_laid hL) (fun b o h => h) (args_agg r0 (args_one r1 (args_one r2 .nil))) (lw_true (e := E5) ((x0, y0), x1, x2))
theorem run6 {v0 v1 v2 v3 : Value} {d0 d1 d2 d3 : DataW H} {p0 p1 p2 p3 : List MemPlace} (hL : laidMetH Tryd.prog laid2 w) (o0 : Value.okWide Tryd.prog W r b0 24 v0) (o1 : Value.okWide Tryd.prog W r b0 22 v1) (o2 : Value.okWide Tryd.prog W r b0 22 v2) (o3 : Value.okWide Tryd.prog W r b0 5 v3)
    (h0 : DataW.Trod enc Tryd.prog w base spare held 24 v0 d0 p0) (h1 : DataW.Trod enc Tryd.prog w base spare held 22 v1 d1 p1) (h2 : DataW.Trod enc Tryd.prog w base spare held 22 v2 d2 p2) (h3 : DataW.Trod enc Tryd.prog w base spare held 5 v3 d3 p3) :
    Calls Tryd.prog 6 #[v0, v1, v2, v3] w fun e w' => e = .returned (.bool true) ∧ Below w.heap.size w w' := by
  obtain ⟨x0, y0, c0, rfl, r0⟩ := arg_fc o0 h0
  obtain ⟨x1, r1⟩ := arg_hs o1 h1
  obtain ⟨x2, r2⟩ := arg_hs o2 h2
  obtain ⟨x3, r3, n3⟩ := arg_u8 o3 h3
  obtain ⟨N, rfl⟩ : ∃ N : Nat, x3 = N := ⟨x3.toNat, by omega⟩
  exact law_of v6 (glob_laid hL) (fun b o h => h) (args_agg r0 (args_one r1 (args_one r2 (args_one r3 .nil)))) (lw_true (e := E6) ⟨((x0, y0), x1, x2, N), by show N ≤ 255; omega⟩)
end
end Go.Proofs.YtipochhfofhofaaDoor
