import Derived.Test.YtipochhfofhofaaDoorS16
namespace Go.Proofs.YtipochhfofhofaaDoor
open Go.RowKit
open Go.Av
set_option maxRecDepth 100000
set_option linter.unusedSimpArgs false
set_option linter.unusedVariables false
variable {G : Glob}
abbrev fcP (b h : Hs) : PV := .agg [hxC b, hxC h]
abbrev rsP (r : Hs × Hs × Int) : PV := .tup [.agg [hxC r.1, hxC r.2.1], iP r.2.2]
def ext (hd : Arr 32 → Arr 32 → Arr 32) (b h l f : Hs) : Hs × Hs × Int :=
  if sound b h = false then ([], [], 6) else if l.length ≠ f.length then ([], [], 8) else if 4096 < h.length + l.length then ([], [], 4) else (b ++ l, h ++ batch hd (prevA h h.length) f, 0)
def rew (b h : Hs) (n : Int) : Hs × Hs × Int :=
  if sound b h = false then ([], [], 6) else if n < 0 ∨ (h.length : Int) < n then ([], [], 5) else (b.take n.toNat, h.take n.toNat, 0)
theorem sound_iff {b h : Hs} : sound b h = true ↔ b.length = h.length ∧ b.length ≤ 4096 := by simp [sound]
def pfx : Hs → Hs → Nat
  | x :: a, y :: b => if x = y then pfx a b + 1 else 0
  | _, _ => 0
theorem pfx_le : ∀ a b : Hs, pfx a b ≤ a.length ∧ pfx a b ≤ b.length
  | [], _ => by simp [pfx]
  | _ :: _, [] => by simp [pfx]
  | x :: a, y :: b => by
    have := pfx_le a b
    unfold pfx
    split <;> simp <;> omega
theorem pfx_eq : ∀ {a b : Hs} {i : Nat}, i < pfx a b → ∃ x, a[i]? = some x ∧ b[i]? = some x
  | [], _, _, h => by simp [pfx] at h
  | _ :: _, [], _, h => by simp [pfx] at h
  | x :: a, y :: b, i, h => by
    unfold pfx at h
    split at h
    · rename_i e
      subst e
      cases i with
      | zero => exact ⟨x, by simp⟩
      | succ i => simpa using pfx_eq (a := a) (b := b) (i := i) (by omega)
    · omega
theorem pfx_ne : ∀ {a b : Hs} {x y : Arr 32}, a[pfx a b]? = some x → b[pfx a b]? = some y → ¬ x = y
  | [], _, _, _, h, _ => by simp at h
  | _ :: _, [], _, _, _, h => by simp at h
  | u :: a, v :: b, x, y, h, h' => by
    unfold pfx at h h'
    split at h
    · rename_i e
      simp [e] at h h'
      exact pfx_ne h h'
    · rename_i e
      simp [e] at h h'
      rw [← h, ← h']
      exact e
def difF (a b : Hs) : Int := if a.length = b.length ∧ pfx a b = a.length then -1 else pfx a b
section
variable {T : Tab}
theorem w11 (hd : Arr 32 → Arr 32 → Arr 32) (b h l f : Hs) (n1 : b.length ≤ 10000) (n2 : h.length ≤ 10000) (n3 : l.length ≤ 10000) (n4 : f.length ≤ 10000) (h13 : T 13 = some G13) (h16 : T 16 = some G16) (h32 : T 32 = some G32) (h33 : T 33 = some G33)
    (e16 : G16 [.agg (arC .u8 (prevA h h.length)), .one (hxC f)] = some (.one (hxC (batch hd (prevA h h.length) f)), [])) : execFn tt T G kp0 false 0 Tryd.f11 [fcP b h, .one (hxC l), .one (hxC f)] = some (rsP (ext hd b h l f), []) := by
  refine fn_ends body11 ?_
  unfold c11
  rw [Tryd.ntmps11]
  have e13 := G13_eq b h
  refine en_seq_reg rfl (by simp; rfl) ?_
  refine en_assoc ?_
  refine en_seq_reg rfl (by simp [h13, e13]; rfl) ?_
  by_cases hs : sound b h = true
  · have hs' := sound_iff.1 hs
    refine en_seq_cond (t := false) (by simp [bV, hs]) (fun h => by simp at h) (fun _ => ?_)
    refine en_seq_skip ?_
    refine en_assoc ?_
    refine en_seq_reg rfl (by simp; rfl) ?_
    by_cases hl : l.length = f.length
    · have hl' : (l.length : Int) = f.length := by omega
      refine en_seq_cond (t := false) (by simp [bV, hl, hl']) (fun h => by simp at h) (fun _ => ?_)
      refine en_seq_skip ?_
      refine en_seq_reg rfl (by simp; rfl) ?_
      refine en_assoc ?_
      have hw : IntKind.i64.wrap ((h.length : Int) + l.length) = ((h.length + l.length : Nat) : Int) := by rw [wrap_i64 (by omega) (by omega)]; omega
      refine en_seq_reg rfl (by simp [hw]; rfl) ?_
      by_cases hb : 4096 < h.length + l.length
      · have hb' : (4096 : Int) < h.length + l.length := by omega
        refine en_seq_cond (t := true) (by simp [bV, hb, hb']) (fun _ => ?_) (fun h => by simp at h)
        refine en_assoc ?_
        refine en_seq_reg rfl (by simp; rfl) ?_
        refine en_seq_ret ?_
        have hb2 : 4096 < h.length + f.length := by omega
        simp [ext, hs, hl, hb2]
      · have hb' : (h.length : Int) + l.length ≤ 4096 := by omega
        have e32a : G32 [.one (.slice .no [[hxC b], [hxC l]])] = some (.one (hxC (b ++ l)), []) := by
          have := G32_eq (Ls := [b, l]) (by simp; omega) (by simp)
          simpa [hrows] using this
        have e33 := G33_eq (b := b) (h := h) (n := h.length) (Nat.le_refl _) (by omega)
        have hx : ext hd b h l f = (b ++ l, h ++ batch hd (prevA h h.length) f, 0) := by simp [ext, hs, hl, hb]; omega
        rw [hx]
        have hbl := batch_len hd (prevA h h.length) f
        generalize batch hd (prevA h h.length) f = B at *
        generalize prevA h h.length = pr at *
        have e32b : G32 [.one (.slice .no [[hxC h], [hxC B]])] = some (.one (hxC (h ++ B)), []) := by
          have := G32_eq (Ls := [h, B]) (by simp; omega) (by simp)
          simpa [hrows] using this
        refine en_seq_cond (t := false) (by simp [bV, hb, hb']) (fun h => by simp at h) (fun _ => ?_)
        refine en_seq_skip ?_
        refine en_seq_draw rfl (by simp [h16, h32, h33, e16, e32a, e32b, e33]; exact ⟨rfl, rfl⟩) (by kernel_rfl) ?_
        refine en_ret ?_
        simp
    · have hl' : ¬ ((l.length : Int) = f.length) := by omega
      refine en_seq_cond (t := true) (by simp [bV, hl, hl']) (fun _ => ?_) (fun h => by simp at h)
      refine en_assoc ?_
      refine en_seq_reg rfl (by simp; rfl) ?_
      refine en_seq_ret ?_
      simp [ext, hs, hl]
  · simp at hs
    refine en_seq_cond (t := true) (by simp [bV, hs]) (fun _ => ?_) (fun h => by simp at h)
    refine en_assoc ?_
    refine en_seq_reg rfl (by simp; rfl) ?_
    refine en_seq_ret ?_
    simp [ext, hs]
theorem w12 (hd : Arr 32 → Arr 32 → Arr 32) (b h l f : Hs) (n1 : b.length ≤ 10000) (n2 : h.length ≤ 10000) (n3 : l.length ≤ 10000) (n4 : f.length ≤ 10000) (h14 : T 14 = some G13) (h17 : T 17 = some G16) (h34 : T 34 = some G34)
    (e16 : G16 [.agg (arC .u8 (prevA h h.length)), .one (hxC f)] = some (.one (hxC (batch hd (prevA h h.length) f)), [])) : execFn tt T G kp0 false 0 Tryd.f12 [fcP b h, .one (hxC l), .one (hxC f)] = some (rsP (ext hd b h l f), []) := by
  refine fn_ends body12 ?_
  unfold c12
  rw [Tryd.ntmps12]
  have e13 := G13_eq b h
  refine en_seq_reg rfl (by simp; rfl) ?_
  refine en_seq_block ?_
  refine en_seq_reg rfl (by simp [h14, e13]; rfl) ?_
  by_cases hs : sound b h = true
  · have hs' := sound_iff.1 hs
    refine en_cond (t := false) (by simp [bV, hs]) (fun h => by simp at h) (fun _ => ?_)
    refine en_seq_reg rfl (by simp; rfl) ?_
    by_cases hl : l.length = f.length
    · have hl' : (l.length : Int) = f.length := by omega
      refine en_cond (t := false) (by simp [bV, hl, hl']) (fun h => by simp at h) (fun _ => ?_)
      have hw : IntKind.i64.wrap ((b.length : Int) + l.length) = ((b.length + l.length : Nat) : Int) := by rw [wrap_i64 (by omega) (by omega)]; omega
      refine en_seq_reg rfl (by simp [hw]; rfl) ?_
      by_cases hb : 4096 < h.length + l.length
      · have hb' : (4096 : Int) < b.length + l.length := by omega
        refine en_cond (t := true) (by simp [bV, hb, hb']) (fun _ => ?_) (fun h => by simp at h)
        refine en_seq_reg rfl (by simp; rfl) ?_
        refine en_ret ?_
        have hb2 : 4096 < h.length + f.length := by omega
        simp [ext, hs, hl, hb2]
      · have hb' : (b.length : Int) + l.length ≤ 4096 := by omega
        have e34a := G34_eq (l := b) (by omega)
        have e34b := G34_eq (l := h) (by omega)
        have hx : ext hd b h l f = (b ++ l, h ++ batch hd (prevA h h.length) f, 0) := by simp [ext, hs, hl, hb]; omega
        rw [hx]
        have hbl := batch_len hd (prevA h h.length) f
        generalize batch hd (prevA h h.length) f = B at *
        have m1 : (b.length + l.length) * 32 ≤ 140737488355328 := by omega
        have m2 : b.length + l.length ≤ maxLen := by unfold maxLen; omega
        have m3 : (h.length + B.length) * 32 ≤ 140737488355328 := by omega
        have m4 : h.length + B.length ≤ maxLen := by unfold maxLen; omega
        refine en_cond (t := false) (by simp [bV, hb, hb']) (fun h => by simp at h) (fun _ => ?_)
        refine en_skip ?_
        simp only [outOf, thenQ, if_true]
        refine en_seq_reg rfl (by simp; rfl) ?_
        refine en_assoc ?_
        refine en_seq_reg rfl (by simp; rfl) ?_
        refine en_assoc ?_
        refine en_seq_reg rfl (by simp; rfl) ?_
        by_cases h0 : h.length = 0
        · have hp : prevA h h.length = zA 32 := by simp [prevA, h0]
          rw [hp] at e16
          refine en_seq_cond (t := false) (by simp [bV, h0]) (fun h => by simp at h) (fun _ => ?_)
          refine en_seq_skip ?_
          refine en_seq_draw rfl (by simp [h17, h34, e16, e34a, e34b, m1, m2, m3, m4, hxs_append, hxs_allT l, hxs_allT B]; exact ⟨rfl, rfl⟩) (by kernel_rfl) ?_
          refine en_ret ?_
          simp
        · have hc : h[h.length - 1]? = some (h[h.length - 1]'(by omega)) := by simp
          have hp : prevA h h.length = h[h.length - 1]'(by omega) := by simp [prevA, h0, hc]
          rw [hp] at e16
          generalize h[h.length - 1]'(by omega) = m at *
          have h0' : (0 : Int) < h.length := by omega
          have h0'' : 0 < h.length := by omega
          have hw : IntKind.i64.wrap ((h.length : Int) - 1) = ((h.length - 1 : Nat) : Int) := by rw [wrap_i64 (by omega) (by omega)]; omega
          refine en_seq_cond (t := true) (by simp [bV, h0', h0'']) (fun _ => ?_) (fun h => by simp at h)
          refine en_seq_reg rfl (by simp [hw, hc]; rfl) ?_
          refine en_seq_draw rfl (by simp [h17, h34, e16, e34a, e34b, m1, m2, m3, m4, hxs_append, hxs_allT l, hxs_allT B]; exact ⟨rfl, rfl⟩) (by kernel_rfl) ?_
          refine en_ret ?_
          simp
    · have hl' : ¬ ((l.length : Int) = f.length) := by omega
      refine en_cond (t := true) (by simp [bV, hl, hl']) (fun _ => ?_) (fun h => by simp at h)
      refine en_seq_reg rfl (by simp; rfl) ?_
      refine en_ret ?_
      simp [ext, hs, hl]
  · simp at hs
    refine en_cond (t := true) (by simp [bV, hs]) (fun _ => ?_) (fun h => by simp at h)
    refine en_seq_reg rfl (by simp; rfl) ?_
    refine en_ret ?_
    simp [ext, hs]
theorem w23 (b h : Hs) (n : Int) (n1 : b.length ≤ 10000) (n2 : h.length ≤ 10000) (h13 : T 13 = some G13) (h32 : T 32 = some G32) : execFn tt T G kp0 false 0 Tryd.f23 [fcP b h, iP n] = some (rsP (rew b h n), []) := by
  refine fn_ends body23 ?_
  unfold c23
  rw [Tryd.ntmps23]
  have e13 := G13_eq b h
  refine en_seq_reg rfl (by simp; rfl) ?_
  refine en_assoc ?_
  refine en_seq_reg rfl (by simp [h13, e13]; rfl) ?_
  by_cases hs : sound b h = true
  · have hs' := sound_iff.1 hs
    have hq : (b.length : Int) = h.length := by omega
    refine en_seq_cond (t := false) (by simp [bV, hs]) (fun h => by simp at h) (fun _ => ?_)
    refine en_seq_skip ?_
    refine en_assoc ?_
    by_cases hn : n < 0
    · refine en_seq_reg rfl (by simp [hn]; rfl) ?_
      refine en_seq_cond (t := true) (by simp [bV, hn]) (fun _ => ?_) (fun h => by simp at h)
      refine en_assoc ?_
      refine en_seq_reg rfl (by simp; rfl) ?_
      refine en_seq_ret ?_
      simp [rew, hs, hn]
    · have hn' : ¬ (n < 0) := hn
      have hn2 : (0 : Int) ≤ n := by omega
      refine en_seq_reg rfl (by simp [hn', hn2, hq]; rfl) ?_
      by_cases hg : (h.length : Int) < n
      · refine en_seq_cond (t := true) (by simp [bV, hg, hq]) (fun _ => ?_) (fun h => by simp at h)
        refine en_assoc ?_
        refine en_seq_reg rfl (by simp; rfl) ?_
        refine en_seq_ret ?_
        simp [rew, hs, hn, hg]
      · obtain ⟨k, rfl⟩ : ∃ k : Nat, n = k := ⟨n.toNat, by omega⟩
        have hg' : k ≤ h.length := by omega
        have hg1 : ¬ (h.length < k) := by omega
        have hg2 : k ≤ b.length := by omega
        have hx : rew b h k = (b.take k, h.take k, 0) := by simp [rew, hs]; omega
        rw [hx]
        have e1 : G32 [.one (.slice .no [[hxC (b.take k)]])] = some (.one (hxC (b.take k)), []) := by
          have := G32_eq (Ls := [b.take k]) (by simp; omega) (by simp)
          simpa [hrows] using this
        have e2 : G32 [.one (.slice .no [[hxC (h.take k)]])] = some (.one (hxC (h.take k)), []) := by
          have := G32_eq (Ls := [h.take k]) (by simp; omega) (by simp)
          simpa [hrows] using this
        refine en_seq_cond (t := false) (by simp [bV, hg, hg', hg1, hq]) (fun h => by simp at h) (fun _ => ?_)
        refine en_seq_skip ?_
        refine en_seq_draw rfl (by simp [h32, e1, e2, hg', hg2, hxs_take, hxs_allT b, hxs_allT h]; exact ⟨rfl, rfl⟩) (by kernel_rfl) ?_
        refine en_ret ?_
        simp [Nat.min_eq_left hg', Nat.min_eq_left hg2, hxs_take, List.take_take]
  · simp at hs
    refine en_seq_cond (t := true) (by simp [bV, hs]) (fun _ => ?_) (fun h => by simp at h)
    refine en_assoc ?_
    refine en_seq_reg rfl (by simp; rfl) ?_
    refine en_seq_ret ?_
    simp [rew, hs]
theorem w24 (b h : Hs) (n : Int) (n1 : b.length ≤ 10000) (n2 : h.length ≤ 10000) (h13 : T 14 = some G13) (h34 : T 34 = some G34) : execFn tt T G kp0 false 0 Tryd.f24 [fcP b h, iP n] = some (rsP (rew b h n), []) := by
  refine fn_ends body24 ?_
  unfold c24
  rw [Tryd.ntmps24]
  have e13 := G13_eq b h
  refine en_seq_reg rfl (by simp; rfl) ?_
  refine en_assoc ?_
  refine en_seq_reg rfl (by simp [h13, e13]; rfl) ?_
  by_cases hs : sound b h = true
  · have hs' := sound_iff.1 hs
    have hq : (b.length : Int) = h.length := by omega
    refine en_seq_cond (t := false) (by simp [bV, hs]) (fun h => by simp at h) (fun _ => ?_)
    refine en_seq_skip ?_
    refine en_assoc ?_
    by_cases hn : n < 0
    · refine en_seq_reg rfl (by simp [hn]; rfl) ?_
      refine en_seq_cond (t := true) (by simp [bV, hn]) (fun _ => ?_) (fun h => by simp at h)
      refine en_assoc ?_
      refine en_seq_reg rfl (by simp; rfl) ?_
      refine en_seq_ret ?_
      simp [rew, hs, hn]
    · have hn' : ¬ (n < 0) := hn
      have hn2 : (0 : Int) ≤ n := by omega
      refine en_seq_reg rfl (by simp [hn', hn2, hq]; rfl) ?_
      by_cases hg : (h.length : Int) < n
      · refine en_seq_cond (t := true) (by simp [bV, hg, hq]) (fun _ => ?_) (fun h => by simp at h)
        refine en_assoc ?_
        refine en_seq_reg rfl (by simp; rfl) ?_
        refine en_seq_ret ?_
        simp [rew, hs, hn, hg]
      · obtain ⟨k, rfl⟩ : ∃ k : Nat, n = k := ⟨n.toNat, by omega⟩
        have hg' : k ≤ h.length := by omega
        have hg1 : ¬ (h.length < k) := by omega
        have hg2 : k ≤ b.length := by omega
        have hx : rew b h k = (b.take k, h.take k, 0) := by simp [rew, hs]; omega
        rw [hx]
        have e1 := G34_eq (l := b.take k) (by simp; omega)
        have e2 := G34_eq (l := h.take k) (by simp; omega)
        refine en_seq_cond (t := false) (by simp [bV, hg, hg', hg1, hq]) (fun h => by simp at h) (fun _ => ?_)
        refine en_seq_skip ?_
        refine en_seq_draw rfl (by simp [h34, e1, e2, hg', hg2, hxs_take, hxs_allT b, hxs_allT h]; exact ⟨rfl, rfl⟩) (by kernel_rfl) ?_
        refine en_ret ?_
        simp [Nat.min_eq_left hg', Nat.min_eq_left hg2, hxs_take, List.take_take]
  · simp at hs
    refine en_seq_cond (t := true) (by simp [bV, hs]) (fun _ => ?_) (fun h => by simp at h)
    refine en_assoc ?_
    refine en_seq_reg rfl (by simp; rfl) ?_
    refine en_seq_ret ?_
    simp [rew, hs]
end
end Go.Proofs.YtipochhfofhofaaDoor
