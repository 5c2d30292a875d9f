import Derived.Test.YtipochhfofhofaaDoorS14
namespace Go.Proofs.YtipochhfofhofaaDoor
open Go.RowKit
open Go.Av
set_option maxRecDepth 100000
set_option linter.unusedSimpArgs false
set_option linter.unusedVariables false
variable {G : Glob}
attribute [simp] tt22 ti22 tt23 ti23 tt24 ti24 tt26 ti26 tt57 ti57 tt30 ti30 tt4 ti4 tt3 ti3
abbrev Hs := List (Arr 32)
def hxs (l : Hs) : List (List Cell) := l.map (arC .u8)
abbrev hxC (l : Hs) : Cell := .slice .no (hxs l)
section
variable {l m : Hs}
@[simp] theorem hxs_nil : hxs [] = [] := rfl
@[simp] theorem hxs_len : (hxs l).length = l.length := by simp [hxs]
@[simp] theorem hxs_pure : pureLL (hxs l) = true := pureLL_map l (by simp [Cell.stab])
@[simp] theorem hxs_fix {bx : Boxes} {ns : List Nat} : fixLL bx ns (hxs l) = hxs l := fixLL_map l (by simp [Cell.stab])
@[simp] theorem hxs_get (i : Nat) : (hxs l)[i]? = (l[i]?).map (arC .u8) := by simp [hxs]
theorem hxs_all : ∀ x ∈ hxs l, x.length = 32 := by simp [hxs]
theorem hxs_allT (l : Hs) : (∀ x : List Cell, x ∈ hxs l → x.length = 32) = True := eq_true hxs_all
theorem hxs_take (n : Nat) : (hxs l).take n = hxs (l.take n) := by simp [hxs, List.map_take]
theorem hxs_drop (n : Nat) : (hxs l).drop n = hxs (l.drop n) := by simp [hxs, List.map_drop]
theorem hxs_append : hxs l ++ hxs m = hxs (l ++ m) := by simp [hxs]
theorem hxs_one (a : Arr 32) : [arC .u8 a] = hxs [a] := rfl
theorem hxs_inj (h : hxs l = hxs m) : l = m := (List.map_inj_right fun a b h => arC_inj h).1 h
theorem hxC_inj (h : hxC l = hxC m) : l = m := by
  injection h with _ h
  exact hxs_inj h
end
def sound (b h : Hs) : Bool := decide (b.length = h.length) && decide (b.length ≤ 4096)
section
variable {T : Tab}
theorem w13 (b h : Hs) : execFn tt T G kp0 false 0 Tryd.f13 [.agg [hxC b, hxC h]] = some (.one (.v (.bool (sound b h))), []) := by
  refine fn_ends body13 ?_
  unfold c13
  rw [Tryd.ntmps13]
  by_cases he : b.length = h.length
  · have he' : (b.length : Int) = h.length := by omega
    refine en_seq_reg rfl (by simp; rfl) ?_
    refine en_seq_reg rfl (by simp [he, he']; rfl) ?_
    refine en_ret ?_
    simp [sound, he]
    try omega
  · have he' : ¬ ((b.length : Int) = h.length) := by omega
    refine en_seq_reg rfl (by simp; rfl) ?_
    refine en_seq_reg rfl (by simp [he, he']; rfl) ?_
    refine en_ret ?_
    simp [sound, he]
theorem w14 (b h : Hs) : execFn tt T G kp0 false 0 Tryd.f14 [.agg [hxC b, hxC h]] = some (.one (.v (.bool (sound b h))), []) := by
  refine fn_ends body14 ?_
  unfold c14
  rw [Tryd.ntmps14]
  by_cases he : b.length = h.length
  · have he' : (b.length : Int) = h.length := by omega
    refine en_seq_reg rfl (by simp; rfl) ?_
    refine en_seq_reg rfl (by simp [he, he']; rfl) ?_
    refine en_ret ?_
    simp [sound, he]
    try omega
  · have he' : ¬ ((b.length : Int) = h.length) := by omega
    refine en_seq_reg rfl (by simp; rfl) ?_
    refine en_seq_reg rfl (by simp [he, he']; rfl) ?_
    refine en_ret ?_
    simp [sound, he]
def H15 (l : Hs) (i : Nat) : ASt := ⟨[.one (hxC l), .one (hxC l)] ++ (und 10 ++ ([iP l.length, iP i] ++ (und 12))), []⟩
def kp15 : Keep := fun n => ⟨[0, 1, 12, 13], [], []⟩
theorem w15 (l : Hs) (hl : l.length ≤ 4611686018427387904) : execFn tt T G kp15 false (l.length + 1) Tryd.f15 [.one (hxC l), .one (hxC l)] = some (.one (.v (.bool true)), []) := by
  refine fn_ends body15 ?_
  unfold c15
  rw [Tryd.ntmps15]
  refine en_seq_reg rfl (by simp; rfl) ?_
  refine en_assoc ?_
  refine en_seq_reg rfl (by simp; rfl) ?_
  refine en_seq_cond (t := false) (by simp [bV]) (fun h => by simp at h) (fun _ => ?_)
  refine en_seq_skip ?_
  refine en_assoc ?_
  refine en_seq_reg rfl (by simp; rfl) ?_
  refine en_seq_block (en_loop (kq := ⟨[0, 1, 12, 13], [], []⟩) rfl ?_)
  refine it_inv (fun i => H15 l i) (fun i => i ≤ l.length) (fun i => l.length - i) ?_ _ 0 _ ?_ ?_ ?_
  · intro i hi
    unfold b15_1 H15
    by_cases hlt : i < l.length
    · have hc : l[i]? = some l[i] := by simp [hlt]
      generalize l[i] = m at hc
      have hz : (i : Int) < l.length := by omega
      refine en_seq_reg rfl (by simp [und, List.replicate]; rfl) ?_
      refine en_seq_cond (t := true) (by simp [bV, hz, hlt]) (fun _ => ?_) (fun h => by simp at h)
      refine en_seq_skip ?_
      refine en_seq_block ?_
      refine en_seq_reg rfl (by simp; rfl) ?_
      refine en_seq_draw rfl (by simp [hc]; exact ⟨rfl, rfl⟩) (by kernel_rfl) ?_
      refine en_cond (t := false) (by simp [bV]) (fun h => by simp at h) (fun _ => ?_)
      refine en_skip ?_
      simp only [outOf, thenQ, if_true]
      refine en_reg rfl (by simp; rfl) ?_
      simp only [outOf, thenQ, if_true]
      have hw : IntKind.i64.wrap ((i : Int) + 1) = i + 1 := wrap_i64 (by omega) (by omega)
      refine ⟨i + 1, by omega, ?_, by omega⟩
      simp [hw, und, List.replicate]
    · obtain rfl : i = l.length := by omega
      refine en_seq_reg rfl (by simp [und, List.replicate]; rfl) ?_
      refine en_seq_cond (t := false) (by simp [bV]) (fun h => by simp at h) (fun _ => ?_)
      refine en_seq_exit ?_
      simp only [outOf, thenQ, if_true]
      refine en_seq_reg rfl (by simp; rfl) ?_
      refine en_ret ?_
      simp
  · omega
  · omega
  · simp [H15, und, List.replicate, intsR]
theorem w34 (l : Hs) (hl : l.length ≤ 100000) : execFn tt T G kp0 true 0 Tryd.f34 [.one (hxC l)] = some (.one (.own 32 (hxs l)), []) := by
  refine fn_ends body34 ?_
  unfold c34
  rw [Tryd.ntmps34]
  have n1 : l.length * 32 ≤ 140737488355328 := by omega
  have n2 : l.length ≤ maxLen := by unfold maxLen; omega
  refine en_seq_reg rfl (by simp; rfl) ?_
  refine en_seq_reg rfl (by simp [hxs_allT l, n1, n2]; rfl) ?_
  refine en_ret ?_
  simp
def prevA (h : Hs) (n : Nat) : Arr 32 := if n = 0 then zA 32 else (h[n - 1]?).getD (zA 32)
theorem w33 (b h : Hs) (n : Nat) (hn : n ≤ h.length) (hl : h.length ≤ 100000) : execFn tt T G kp0 false 0 Tryd.f33 [.agg [hxC b, hxC h], iP n] = some (.agg (arC .u8 (prevA h n)), []) := by
  refine fn_ends body33 ?_
  unfold c33
  rw [Tryd.ntmps33]
  by_cases h0 : n = 0
  · subst h0
    refine en_seq_reg rfl (by simp; rfl) ?_
    refine en_assoc ?_
    refine en_seq_reg rfl (by simp; rfl) ?_
    refine en_seq_cond (t := true) (by simp [bV]) (fun _ => ?_) (fun h => by simp at h)
    refine en_assoc ?_
    refine en_seq_reg rfl (by simp; rfl) ?_
    refine en_seq_ret ?_
    simp [prevA]
  · have hc : h[n - 1]? = some (h[n - 1]'(by omega)) := by simp
    have hp : prevA h n = h[n - 1]'(by omega) := by simp [prevA, h0, hc]
    rw [hp]
    generalize h[n - 1]'(by omega) = m at hc
    have h0' : ¬ ((n : Int) = 0) := by omega
    have hw : IntKind.i64.wrap ((n : Int) - 1) = ((n - 1 : Nat) : Int) := by rw [wrap_i64 (by omega) (by omega)]; omega
    refine en_seq_reg rfl (by simp; rfl) ?_
    refine en_assoc ?_
    refine en_seq_reg rfl (by simp; rfl) ?_
    refine en_seq_cond (t := false) (by simp [bV, h0, h0']) (fun h => by simp at h) (fun _ => ?_)
    refine en_seq_skip ?_
    refine en_seq_reg rfl (by simp [hw, hc]; rfl) ?_
    refine en_ret ?_
    simp
end
noncomputable def G13 := lift (fun x : Hs × Hs => [.agg [hxC x.1, hxC x.2]]) fun x => some (.one (.v (.bool (sound x.1 x.2))), [])
theorem G13_eq (b h : Hs) : G13 [.agg [hxC b, hxC h]] = some (.one (.v (.bool (sound b h))), []) := lift_eq (enc := fun x : Hs × Hs => [.agg [hxC x.1, hxC x.2]]) (fun a b h => by
  simp at h
  exact Prod.ext (hxs_inj h.1) (hxs_inj h.2)) (b, h)
theorem v13 : Impl Tryd.prog G 13 G13 := impl_of (T := Av.tab []) mixed htt (Av.tab_ok trivial) Tryd.func13 body13 (by kernel_rfl) fun ps r ho hF => by
  obtain ⟨x, rfl, h⟩ := lift_inv hF
  injection h with h
  subst h
  exact ⟨_, _, _, w13 x.1 x.2⟩
theorem v14 : Impl Tryd.prog G 14 G13 := impl_of (T := Av.tab []) mixed htt (Av.tab_ok trivial) Tryd.func14 body14 (by kernel_rfl) fun ps r ho hF => by
  obtain ⟨x, rfl, h⟩ := lift_inv hF
  injection h with h
  subst h
  exact ⟨_, _, _, w14 x.1 x.2⟩
noncomputable def G15 := lift (fun x : { l : Hs // l.length ≤ 4611686018427387904 } => [.one (hxC x.1), .one (hxC x.1)]) fun x => some (.one (.v (.bool true)), [])
theorem G15_eq {l : Hs} (h : l.length ≤ 4611686018427387904) : G15 [.one (hxC l), .one (hxC l)] = some (.one (.v (.bool true)), []) := lift_eq (enc := fun x : { l : Hs // l.length ≤ 4611686018427387904 } => [.one (hxC x.1), .one (hxC x.1)]) (fun a b h => by
  simp at h
  exact Subtype.ext (hxs_inj h)) ⟨l, h⟩
theorem v15 : Impl Tryd.prog G 15 G15 := impl_of (T := Av.tab []) mixed htt (Av.tab_ok trivial) Tryd.func15 body15 (by kernel_rfl) fun ps r ho hF => by
  obtain ⟨x, rfl, h⟩ := lift_inv hF
  injection h with h
  subst h
  exact ⟨_, _, _, w15 x.1 x.2⟩
noncomputable def G34 := lift (fun x : { l : Hs // l.length ≤ 100000 } => [.one (hxC x.1)]) fun x => some (.one (.own 32 (hxs x.1)), [])
theorem G34_eq {l : Hs} (h : l.length ≤ 100000) : G34 [.one (hxC l)] = some (.one (.own 32 (hxs l)), []) := lift_eq (enc := fun x : { l : Hs // l.length ≤ 100000 } => [.one (hxC x.1)]) (fun a b h => by
  simp at h
  exact Subtype.ext (hxs_inj h)) ⟨l, h⟩
theorem v34 : Impl Tryd.prog G 34 G34 := impl_of (T := Av.tab []) mixed htt (Av.tab_ok trivial) Tryd.func34 body34 (by kernel_rfl) fun ps r ho hF => by
  obtain ⟨x, rfl, h⟩ := lift_inv hF
  injection h with h
  subst h
  exact ⟨_, _, _, w34 x.1 x.2⟩
noncomputable def G33 := lift (fun x : { x : (Hs × Hs) × Nat // x.2 ≤ x.1.2.length ∧ x.1.2.length ≤ 100000 } => [.agg [hxC x.1.1.1, hxC x.1.1.2], iP x.1.2]) fun x => some (.agg (arC .u8 (prevA x.1.1.2 x.1.2)), [])
theorem G33_eq {b h : Hs} {n : Nat} (h1 : n ≤ h.length) (h2 : h.length ≤ 100000) : G33 [.agg [hxC b, hxC h], iP n] = some (.agg (arC .u8 (prevA h n)), []) := lift_eq (enc := fun x : { x : (Hs × Hs) × Nat // x.2 ≤ x.1.2.length ∧ x.1.2.length ≤ 100000 } => [.agg [hxC x.1.1.1, hxC x.1.1.2], iP x.1.2]) (fun a b h => by
  simp at h
  exact Subtype.ext (Prod.ext (Prod.ext (hxs_inj h.1.1) (hxs_inj h.1.2)) (by omega))) ⟨((b, h), n), h1, h2⟩
theorem v33 : Impl Tryd.prog G 33 G33 := impl_of (T := Av.tab []) mixed htt (Av.tab_ok trivial) Tryd.func33 body33 (by kernel_rfl) fun ps r ho hF => by
  obtain ⟨x, rfl, h⟩ := lift_inv hF
  injection h with h
  subst h
  exact ⟨_, _, _, w33 x.1.1.1 x.1.1.2 x.1.2 x.2.1 x.2.2⟩
end Go.Proofs.YtipochhfofhofaaDoor
