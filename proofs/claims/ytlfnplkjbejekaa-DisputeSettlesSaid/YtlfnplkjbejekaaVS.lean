import Derived.Test.YtlfnplkjbejekaaVTr
import Derived.Test.YtlfnplkjbejekaaVCode
import Derived.Test.YtlfnplkjbejekaaI2
namespace Go.Proofs.Ytlfnplkjbejekaa.V
open Go.RowKit
open Go.Av hiding iP bP
set_option maxRecDepth 100000
set_option linter.unusedSimpArgs false
set_option linter.unusedVariables false
attribute [simp] tt2 ti2 tt3 ti3 tt4 ti4 tt5 ti5 tt22 ti22 tt23 ti23 tt24 ti24 tt25 ti25 tt26 ti26 tt29 ti29 tt33 ti33 tt39 ti39 tt44 ti44 tt45 ti45 tt51 ti51 tt53 ti53
def hV (h : Hs) : List Cell := ints .u8 h.l
@[simp] theorem hV_len (c : Hs) : (hV c).length = 32 := by simp [hV, c.hl]
@[simp] theorem hV_stab (c : Hs) : stabL (hV c) = true := by simp [hV]
@[simp] theorem hV_sl (c : Hs) : hasSlL (hV c) = false := by simp [hV]
@[simp] theorem hV_take (c : Hs) : (hV c).take 32 = hV c := List.take_of_length_le (by simp)
@[simp] theorem put_hV (cs : List Cell) (h : Hs) : putCells cs 0 (hV h) = hV h ++ cs.drop 32 := by unfold putCells; simp
@[simp] theorem put_hV_skip {m : Nat} (a : Hs) (cs ds : List Cell) (h : 32 ≤ m) : putCells (hV a ++ cs) m ds = hV a ++ putCells cs (m - 32) ds := by
  have := put_skip (xs := hV a) (cs := cs) (ds := ds) (n := m) (by simpa using h)
  simpa using this
def clV (c : Cl) : List Cell := .v (.int .i64 c.peer) :: hV c.hdr
@[simp] theorem clV_len (c : Cl) : (clV c).length = 33 := by simp [clV]
@[simp] theorem clV_stab (c : Cl) : stabL (clV c) = true := by simp [clV, Cell.stab]
@[simp] theorem clV_sl (c : Cl) : hasSlL (clV c) = false := by simp [clV, Cell.hasSl, Cell.isSl]
def disV (d : Dis) : List Cell := .v (.int .i64 d.lo) :: .v (.int .i64 d.hi) :: (hV d.ag ++ [.slice .no (d.cl.map clV)])
@[simp] theorem disV_len (d : Dis) : (disV d).length = 35 := by simp [disV]
@[simp] theorem disV_stab (d : Dis) : stabL (disV d) = true := by simp [disV, Cell.stab]
abbrev iV (x : Int) : PV := .one (.v (.int .i64 x))
abbrev bW (b : Bool) : PV := .one (.v (.bool b))
abbrev lsV (L : List Cl) : PV := .one (.slice .no (L.map clV))
theorem hV_inj {a b : Hs} (h : hV a = hV b) : a = b := by
  have := ints_inj h
  cases a; cases b
  simp_all
theorem clV_inj {a b : Cl} (h : clV a = clV b) : a = b := by
  unfold clV at h
  injection h with h1 h2
  injection h1 with h1
  injection h1 with _ h1
  have := hV_inj h2
  cases a; cases b
  simp_all
theorem rowV_inj {a b : List Cl} (h : a.map clV = b.map clV) : a = b := (List.map_inj_right fun a b h => clV_inj h).1 h
theorem lsV_inj {a b : List Cl} (h : lsV a = lsV b) : a = b := by
  injection h with h
  injection h with _ h
  exact rowV_inj h
theorem disV_inj {a b : Dis} (h : disV a = disV b) : a = b := by
  unfold disV at h
  injection h with h1 h
  injection h with h2 h
  injection h1 with h1
  injection h1 with _ h1
  injection h2 with h2
  injection h2 with _ h2
  obtain ⟨h3, h4⟩ := List.append_inj h (by simp)
  have h3 := hV_inj h3
  simp at h4
  have h4 := rowV_inj h4
  cases a; cases b
  simp_all
theorem eqv_h (h : Hs) : Tr.EqvL (hC h) (hV h) := by
  unfold hC by8 hV ints
  induction h.l with
  | nil => exact .nil
  | cons x l ih => exact .cons (.v _) ih
theorem eqv_cl (c : Cl) : Tr.EqvL (clC c) (clV c) := .cons (.v _) (eqv_h _)
theorem eqv_row (L : List Cl) : Tr.Eqv (.slice .no (L.map clC)) (.slice .no (L.map clV)) := Tr.Eqv.row L eqv_cl
theorem eqv_dis (d : Dis) : Tr.EqvL (disC d) (disV d) := .cons (.v _) (.cons (.v _) ((eqv_h _).append (.cons (eqv_row _) .nil)))
theorem eqv_i (x : Int) : Tr.EqvP (iP x) (iV x) := .one (.v _)
theorem eqv_b (x : Bool) : Tr.EqvP (bP x) (bW x) := .one (.v _)
noncomputable def G23 := lift (fun L : List Cl => [lsV L]) fun L => some (bW (claimsV L), [])
noncomputable def G24 := lift (fun x : Int × Int => [iV x.1, iV x.2]) fun x => some (bW (heightsV x.1 x.2), [])
noncomputable def G12 := lift (fun d : Dis => [.agg (disV d)]) fun d => some (.tup [iV (askV d).1, bW (askV d).2], [])
noncomputable def G14 := lift (fun d : Dis => [.agg (disV d)]) fun d => some (bW (openV d), [])
noncomputable def G16 := lift (fun x : { x : Int × Int // In64 x.1 ∧ In64 x.2 } => [iV x.1.1, iV x.1.2]) fun x => some (iV (roundsV x.1.1 x.1.2), [])
noncomputable def G18 := lift (fun x : Dis × List Cl => [.agg (disV x.1), lsV x.2]) fun x => some (.tup [.agg (disV (answerV x.1 x.2).1), .one (isC .i64 (answerV x.1 x.2).2.1), iV (answerV x.1 x.2).2.2], [])
variable {G : Glob}
theorem v23 : Impl Try.prog G 23 G23 := Tr.impl impl23 (fun L => .cons (.one (eqv_row L)) .nil) (r1 := fun L => bP (claimsV L)) (fun L => F23_eq L) fun L => .base (eqv_b _)
theorem v24 : Impl Try.prog G 24 G24 := Tr.impl impl24 (fun x => .cons (eqv_i _) (.cons (eqv_i _) .nil)) (r1 := fun x => bP (heightsV x.1 x.2)) (fun x => rfl) fun L => .base (eqv_b _)
theorem v12 : Impl Try.prog G 12 G12 := Tr.impl impl12 (fun d => .cons (.agg (eqv_dis d)) .nil) (r1 := fun d => .tup [iP (askV d).1, bP (askV d).2]) (fun d => F12_eq d) fun d => .tup (.cons (eqv_i _) (.cons (eqv_b _) .nil))
theorem v14 : Impl Try.prog G 14 G14 := Tr.impl impl14 (fun d => .cons (.agg (eqv_dis d)) .nil) (r1 := fun d => bP (openV d)) (fun d => F14_eq d) fun d => .base (eqv_b _)
theorem v16 : Impl Try.prog G 16 G16 := Tr.impl impl16 (fun x => .cons (eqv_i _) (.cons (eqv_i _) .nil)) (r1 := fun x => iP (roundsV x.1.1 x.1.2)) (fun x => by
  simp only [F16]
  have h1 := x.2.1
  have h2 := x.2.2
  unfold In64 at h1 h2
  rw [if_pos ⟨h1.1, h1.2, h2.1, h2.2⟩]) fun d => .base (eqv_i _)
theorem v18 : Impl Try.prog G 18 G18 := Tr.impl impl18 (fun x => .cons (.agg (eqv_dis x.1)) (.cons (.one (eqv_row x.2)) .nil)) (r1 := fun x => .tup [dP (answerV x.1 x.2).1, isP (answerV x.1 x.2).2.1, iP (answerV x.1 x.2).2.2]) (fun x => F18_eq x.1 x.2) fun x =>
  .tup (.cons (.agg (eqv_dis _)) (.cons (.one (Tr.Eqv.row _ fun a => .cons (.v _) .nil)) (.cons (eqv_i _) .nil)))
theorem G23_eq (L : List Cl) : G23 [lsV L] = some (bW (claimsV L), []) := lift_eq (enc := fun L : List Cl => [lsV L]) (fun a b h => lsV_inj (by simpa using h)) L
theorem G24_eq (x y : Int) : G24 [iV x, iV y] = some (bW (heightsV x y), []) := lift_eq (enc := fun x : Int × Int => [iV x.1, iV x.2]) (fun a b h => by cases a; cases b; simp at h; simp [h]) (x, y)
theorem G12_eq (d : Dis) : G12 [.agg (disV d)] = some (.tup [iV (askV d).1, bW (askV d).2], []) := lift_eq (enc := fun d : Dis => [.agg (disV d)]) (fun a b h => disV_inj (by simpa using h)) d
theorem G14_eq (d : Dis) : G14 [.agg (disV d)] = some (bW (openV d), []) := lift_eq (enc := fun d : Dis => [.agg (disV d)]) (fun a b h => disV_inj (by simpa using h)) d
theorem G16_eq (x y : Int) (h1 : In64 x) (h2 : In64 y) : G16 [iV x, iV y] = some (iV (roundsV x y), []) := lift_eq (enc := fun x : { x : Int × Int // In64 x.1 ∧ In64 x.2 } => [iV x.1.1, iV x.1.2]) (fun a b h => by obtain ⟨⟨a1, a2⟩, _⟩ := a; obtain ⟨⟨b1, b2⟩, _⟩ := b; simp at h; simp [h]) ⟨(x, y), h1, h2⟩
theorem G18_eq (d : Dis) (L : List Cl) : G18 [.agg (disV d), lsV L] = some (.tup [.agg (disV (answerV d L).1), .one (isC .i64 (answerV d L).2.1), iV (answerV d L).2.2], []) := lift_eq (enc := fun x : Dis × List Cl => [.agg (disV x.1), lsV x.2]) (fun a b h => by
  obtain ⟨a1, a2⟩ := a
  obtain ⟨b1, b2⟩ := b
  simp at h
  obtain ⟨h1, h2⟩ := h
  rw [disV_inj h1, rowV_inj h2]) (d, L)
def kp0 : Keep := fun _ => ⟨[], [], []⟩
section
variable {T : Tab}
theorem w25 (L : List Cl) (hne : L ≠ []) (hl : L.length ≤ 64) : execFn tt T G kp0 true 0 Try.f25 [.one (.slice .no (L.map clV))] = some (.one (.own 33 (L.map clV)), []) := by
  refine fn_ends body25 ?_
  unfold c25
  rw [Try.ntmps25]
  have b1 : L.length * 40 ≤ 140737488355328 := by omega
  have b2 : L.length ≤ maxLen := by unfold maxLen; omega
  refine en_seq_reg rfl (by simp; rfl) ?_
  refine en_assoc ?_
  refine en_seq_reg rfl (by simp [hne]; rfl) ?_
  refine en_seq_cond (t := false) (by simp [bV]) (fun h => by simp at h) (fun _ => ?_)
  refine en_seq_skip ?_
  refine en_seq_reg rfl (by simp [b1, b2]; rfl) ?_
  refine en_ret ?_
  simp
end
noncomputable def G25 := lift (fun x : { L : List Cl // L ≠ [] ∧ L.length ≤ 64 } => [lsV x.1]) fun x => some (.one (.own 33 (x.1.map clV)), [])
theorem v25 : Impl Try.prog G 25 G25 := impl_of (T := Av.tab []) mixed htt (Av.tab_ok trivial) Try.func25 body25 (by kernel_rfl) fun ps r ho hF => by
  obtain ⟨x, rfl, h⟩ := lift_inv hF
  injection h with h
  subst h
  exact ⟨_, _, _, w25 x.1 x.2.1 x.2.2⟩
theorem G25_eq (L : List Cl) (h1 : L ≠ []) (h2 : L.length ≤ 64) : G25 [lsV L] = some (.one (.own 33 (L.map clV)), []) := lift_eq (enc := fun x : { L : List Cl // L ≠ [] ∧ L.length ≤ 64 } => [lsV x.1]) (fun a b h => by cases a; cases b; simp at h; simp; exact rowV_inj h) ⟨L, h1, h2⟩
section
variable {T : Tab}
theorem w9 (lo hi : Int) (ag : Hs) (L : List Cl) (hne : L ≠ []) (hc : claimsV L = true) (hh : heightsV lo hi = true) (hl : L.length ≤ 64) (h23 : T 23 = some G23) (h24 : T 24 = some G24) (h25 : T 25 = some G25) :
    execFn tt T G kp0 true 0 Try.f9 [iV lo, .agg (hV ag), iV hi, lsV L] = some (.tup [.agg (.v (.int .i64 lo) :: .v (.int .i64 hi) :: (hV ag ++ [.own 33 (L.map clV)])), iV 0], []) := by
  refine fn_ends body9 ?_
  unfold c9
  rw [Try.ntmps9]
  have e23 := G23_eq L
  have e24 := G24_eq lo hi
  have e25 := G25_eq L hne hl
  have hlen : ¬ (L.length : Int) = 0 := by have := List.length_pos_iff.2 hne; omega
  refine en_seq_reg rfl (by simp; rfl) ?_
  refine en_assoc ?_
  refine en_seq_reg rfl (by simp [h23, e23, hc, hlen, hne]; rfl) ?_
  refine en_seq_cond (t := false) (by simp [bV]) (fun h => by simp at h) (fun _ => ?_)
  refine en_seq_skip ?_
  refine en_assoc ?_
  refine en_seq_reg rfl (by simp [h24, e24, hh]; rfl) ?_
  refine en_seq_cond (t := false) (by simp [bV]) (fun h => by simp at h) (fun _ => ?_)
  refine en_seq_skip ?_
  refine en_seq_draw rfl (by simp [h25, e25]; exact ⟨rfl, rfl⟩) (by kernel_rfl) ?_
  refine en_ret ?_
  simp
end
noncomputable def G9 := lift (fun x : { x : Int × Hs × Int × List Cl // x.2.2.2 ≠ [] ∧ claimsV x.2.2.2 = true ∧ heightsV x.1 x.2.2.1 = true ∧ x.2.2.2.length ≤ 64 } => [iV x.1.1, .agg (hV x.1.2.1), iV x.1.2.2.1, lsV x.1.2.2.2])
  fun x => some (.tup [.agg (.v (.int .i64 x.1.1) :: .v (.int .i64 x.1.2.2.1) :: (hV x.1.2.1 ++ [.own 33 (x.1.2.2.2.map clV)])), iV 0], [])
theorem v9 : Impl Try.prog G 9 G9 := impl_of (T := Av.tab [(23, G23), (24, G24), (25, G25)]) mixed htt (Av.tab_ok ⟨v23, v24, v25, trivial⟩) Try.func9 body9 (by kernel_rfl) fun ps r ho hF => by
  obtain ⟨x, rfl, h⟩ := lift_inv hF
  injection h with h
  subst h
  exact ⟨_, _, _, w9 _ _ _ _ x.2.1 x.2.2.1 x.2.2.2.1 x.2.2.2.2 rfl rfl rfl⟩
def z32 (x : Int) : Hs := ⟨x :: List.replicate 31 0, by simp⟩
def s1 : Cl := ⟨1, z32 1⟩
def s2 : Cl := ⟨4, z32 2⟩
def s3 : Cl := ⟨4, z32 1⟩
def sd : Dis := ⟨0, 8, z32 0, [s1, s2]⟩
theorem G9_eq : G9 [iV 0, .agg (hV (z32 0)), iV 8, lsV [s1, s2]] = some (.tup [.agg (.v (.int .i64 0) :: .v (.int .i64 8) :: (hV (z32 0) ++ [.own 33 ([s1, s2].map clV)])), iV 0], []) :=
  lift_eq (enc := fun x : { x : Int × Hs × Int × List Cl // x.2.2.2 ≠ [] ∧ claimsV x.2.2.2 = true ∧ heightsV x.1 x.2.2.1 = true ∧ x.2.2.2.length ≤ 64 } => [iV x.1.1, .agg (hV x.1.2.1), iV x.1.2.2.1, lsV x.1.2.2.2]) (fun a b h => by
    obtain ⟨⟨a1, a2, a3, a4⟩, _⟩ := a
    obtain ⟨⟨b1, b2, b3, b4⟩, _⟩ := b
    simp at h
    obtain ⟨h1, h2, h3, h4⟩ := h
    simp
    exact ⟨h1, hV_inj h2, h3, rowV_inj h4⟩) ⟨(0, z32 0, 8, [s1, s2]), by decide, by decide, by decide, by decide⟩
end Go.Proofs.Ytlfnplkjbejekaa.V
