import Derived.Test.YtipochhfofhofaaDoorS19
namespace Go.Proofs.YtipochhfofhofaaDoor
open Go.RowKit
open Go.Av
set_option maxRecDepth 100000
set_option linter.unusedSimpArgs false
set_option linter.unusedVariables false
variable {G : Glob}

def ck (h : Hs) (k : Nat) : Nat → Hs
  | 0 => []
  | i + 1 => ck h k i ++ (if 0 < i ∧ i % k = 0 then (h[i]?).toList else [])
theorem ck_len (h : Hs) (k i : Nat) : (ck h k i).length ≤ i := by
  induction i with
  | zero => simp [ck]
  | succ i ih =>
    unfold ck
    split
    · cases h[i]? <;> simp <;> omega
    · simp; omega
theorem ck_yes {h : Hs} {k i : Nat} {x : Arr 32} (h0 : 0 < i) (h1 : i % k = 0) (hx : h[i]? = some x) : ck h k (i + 1) = ck h k i ++ [x] := by simp [ck, h0, h1, hx]
theorem ck_no {h : Hs} {k i : Nat} (h0 : ¬ (0 < i ∧ i % k = 0)) : ck h k (i + 1) = ck h k i := by
  conv => lhs; unfold ck
  rw [if_neg h0]
  simp
def chk (b h : Hs) (n : Int) : Hs := if n ≤ 0 ∨ sound b h = false then [] else ck h n.toNat h.length
theorem tmod_nat (i k : Nat) : Int.tmod (i : Int) (k : Int) = ((i % k : Nat) : Int) := by
  rw [Int.tmod_eq_emod_of_nonneg (by omega)]
  rfl
def H19 (b h l : Hs) (k i : Nat) : ASt := ⟨und 1 ++ ([iP k, .ptr 2 0 0 0 2] ++ (und 2 ++ ([.one (.ms 35 0 0 l.length 32)] ++ (und 10 ++ ([iP h.length, iP i] ++ (und 20)))))), [(2, ⟨0, 2, [[hxC b, hxC h]], false, false⟩), (35, ⟨0, 32, hxs l, false, true⟩)]⟩
def kp19 : Keep := fun _ => ⟨[1, 2, 5, 16, 17], [2, 35], [(5, none, 35, 32)]⟩
def H20 (b h l : Hs) (k i : Nat) : ASt := ⟨und 1 ++ ([iP k, .ptr 2 0 0 0 2] ++ (und 2 ++ ([.one (.ms 33 0 0 l.length 32), iP i] ++ (und 28)))), [(2, ⟨0, 2, [[hxC b, hxC h]], false, false⟩), (33, ⟨0, 32, hxs l, false, true⟩)]⟩
def kp20 : Keep := fun _ => ⟨[1, 2, 5, 6], [2, 33], [(5, none, 33, 32)]⟩
section
variable {T : Tab}
theorem w19 (b h : Hs) (n : Int) (n1 : b.length ≤ 10000) (n2 : h.length ≤ 10000) (n3 : n ≤ 9223372036854775807) (h13 : T 13 = some G13) : execFn tt T G kp19 false (h.length + 1) Tryd.f19 [fcP b h, iP n] = some (.one (hxC (chk b h n)), []) := by
  refine fn_ends body19 ?_
  unfold c19
  rw [Tryd.ntmps19]
  have e13 := G13_eq b h
  refine en_seq_reg rfl (by simp; rfl) ?_
  refine en_assoc ?_
  by_cases hn : n ≤ 0
  · refine en_seq_reg rfl (by simp [hn]; rfl) ?_
    refine en_seq_cond (t := true) (by simp [bV]) (fun _ => ?_) (fun h => by simp at h)
    refine en_assoc ?_
    refine en_seq_reg rfl (by simp; rfl) ?_
    refine en_seq_ret ?_
    simp [chk, hn]
  · refine en_seq_reg rfl (by simp [hn, h13, e13]; rfl) ?_
    by_cases hs : sound b h = true
    · obtain ⟨k, rfl⟩ : ∃ k : Nat, n = k := ⟨n.toNat, by omega⟩
      have hk : ¬ k = 0 := by omega
      have hk' : ¬ (k : Int) = 0 := by omega
      have hx : chk b h k = ck h k h.length := by simp [chk, hs, hk]
      rw [hx]
      refine en_seq_cond (t := false) (by simp [bV, hs]) (fun h => by simp at h) (fun _ => ?_)
      refine en_seq_skip ?_
      refine en_seq_reg rfl (by simp; rfl) ?_
      refine en_assoc ?_
      refine en_seq_reg rfl (by simp; rfl) ?_
      refine en_seq_block (en_loop (kq := ⟨[1, 2, 5, 16, 17], [2, 35], [(5, none, 35, 32)]⟩) rfl ?_)
      refine it_inv (fun i => H19 b h (ck h k i) k i) (fun i => i ≤ h.length) (fun i => h.length - i) ?_ _ 0 _ ?_ ?_ ?_
      · intro i hi
        unfold b19_1 H19
        have hcl := ck_len h k i
        by_cases hlt : i < h.length
        · have hc : h[i]? = some h[i] := by simp [hlt]
          generalize h[i] = m at hc
          have hz : (i : Int) < h.length := by omega
          have hw : IntKind.i64.wrap ((i : Int) + 1) = i + 1 := wrap_i64 (by omega) (by omega)
          refine en_seq_reg rfl (by simp [und, List.replicate]; rfl) ?_
          refine en_seq_cond (t := true) (by simp [bV, hz, hlt]) (fun _ => ?_) (fun h => by simp at h)
          refine en_seq_skip ?_
          refine en_seq_block ?_
          refine en_seq_reg rfl (by simp; rfl) ?_
          by_cases h0 : 0 < i
          · have h0' : (0 : Int) < i := by omega
            have hmod := tmod_nat i k
            refine en_seq_reg rfl (by simp [h0, h0', hmod, hk, hk']; rfl) ?_
            by_cases h1 : i % k = 0
            · have h1' : (i : Int) % k = 0 := by omega
              have hy := ck_yes h0 h1 hc
              generalize ck h k i = M at *
              have ha : hxs M ++ [arC .u8 m] = hxs (M ++ [m]) := by simp [hxs]
              have m1 : (M.length + 1) * 32 ≤ 140737488355328 := by omega
              have m2 : M.length + 1 ≤ maxLen := by unfold maxLen; omega
              refine en_cond (t := true) (by simp [bV, h1, h1', Int.emod_emod_of_dvd]) (fun _ => ?_) (fun h => by simp at h)
              refine en_reg rfl (by simp [hc, m1, m2, ha, hxs_g hc]; rfl) ?_
              simp only [outOf, thenQ, if_true]
              refine en_reg rfl (by simp; rfl) ?_
              simp only [outOf, thenQ, if_true]
              refine ⟨i + 1, by omega, ?_, by omega⟩
              simp [hw, und, List.replicate, hy]
            · have h1' : ¬ (i : Int) % k = 0 := by omega
              have hy := ck_no (h := h) (k := k) (i := i) (by omega)
              generalize ck h k i = M at *
              refine en_cond (t := false) (by simp [bV, h1, h1']) (fun h => by simp at h) (fun _ => ?_)
              refine en_skip ?_
              simp only [outOf, thenQ, if_true]
              refine en_reg rfl (by simp; rfl) ?_
              simp only [outOf, thenQ, if_true]
              refine ⟨i + 1, by omega, ?_, by omega⟩
              simp [hw, und, List.replicate, hy]
          · have h0' : ¬ (0 : Int) < i := by omega
            have hy := ck_no (h := h) (k := k) (i := i) (by omega)
            generalize ck h k i = M at *
            refine en_seq_reg rfl (by simp [h0, h0']; rfl) ?_
            refine en_cond (t := false) (by simp [bV]) (fun h => by simp at h) (fun _ => ?_)
            refine en_skip ?_
            simp only [outOf, thenQ, if_true]
            refine en_reg rfl (by simp; rfl) ?_
            simp only [outOf, thenQ, if_true]
            refine ⟨i + 1, by omega, ?_, by omega⟩
            simp [hw, und, List.replicate, hy]
        · obtain rfl : i = h.length := by omega
          refine en_seq_reg rfl (by simp [und, List.replicate]; rfl) ?_
          refine en_seq_cond (t := false) (by simp [bV]) (fun h => by simp at h) (fun _ => ?_)
          refine en_seq_exit ?_
          simp only [outOf, thenQ, if_true]
          refine en_seq_reg rfl (by simp; rfl) ?_
          refine en_ret ?_
          simp
      · omega
      · omega
      · simp [H19, und, List.replicate, ck]
    · simp at hs
      refine en_seq_cond (t := true) (by simp [bV, hs]) (fun _ => ?_) (fun h => by simp at h)
      refine en_assoc ?_
      refine en_seq_reg rfl (by simp; rfl) ?_
      refine en_seq_ret ?_
      simp [chk, hs]
theorem w20 (b h : Hs) (n : Int) (n1 : b.length ≤ 10000) (n2 : h.length ≤ 10000) (n3 : n ≤ 9223372036854775807) (h14 : T 14 = some G13) : execFn tt T G kp20 false (h.length + 2) Tryd.f20 [fcP b h, iP n] = some (.one (hxC (chk b h n)), []) := by
  refine fn_ends body20 ?_
  unfold c20
  rw [Tryd.ntmps20]
  have e13 := G13_eq b h
  refine en_seq_reg rfl (by simp; rfl) ?_
  refine en_seq_reg rfl (by simp; rfl) ?_
  refine en_assoc ?_
  by_cases hn : n ≤ 0
  · refine en_seq_reg rfl (by simp [hn]; rfl) ?_
    refine en_seq_cond (t := true) (by simp [bV]) (fun _ => ?_) (fun h => by simp at h)
    refine en_assoc ?_
    refine en_seq_reg rfl (by simp; rfl) ?_
    refine en_seq_ret ?_
    simp [chk, hn]
  · refine en_seq_reg rfl (by simp [hn, h14, e13]; rfl) ?_
    by_cases hs : sound b h = true
    · obtain ⟨k, rfl⟩ : ∃ k : Nat, n = k := ⟨n.toNat, by omega⟩
      have hk : ¬ k = 0 := by omega
      have hk' : ¬ (k : Int) = 0 := by omega
      have hx : chk b h k = ck h k h.length := by simp [chk, hs, hk]
      rw [hx]
      refine en_seq_cond (t := false) (by simp [bV, hs]) (fun h => by simp at h) (fun _ => ?_)
      refine en_seq_skip ?_
      refine en_assoc ?_
      refine en_seq_reg rfl (by simp; rfl) ?_
      refine en_seq_block (en_loop (kq := ⟨[1, 2, 5, 6], [2, 33], [(5, none, 33, 32)]⟩) rfl ?_)
      refine it_inv (fun i => H20 b h (ck h k i) k i) (fun i => 0 < i ∧ (i ≤ h.length ∨ i = 1)) (fun i => h.length + 1 - i) ?_ _ 1 _ ?_ ?_ ?_
      · intro i hi
        obtain ⟨h0, hi⟩ := hi
        unfold b20_1 H20
        refine en_assoc ?_
        have hcl := ck_len h k i
        by_cases hlt : i < h.length
        · have hc : h[i]? = some h[i] := by simp [hlt]
          generalize h[i] = m at hc
          have hz : (i : Int) < h.length := by omega
          have hw : IntKind.i64.wrap ((i : Int) + 1) = i + 1 := wrap_i64 (by omega) (by omega)
          have hmod := tmod_nat i k
          refine en_seq_reg rfl (by simp [und, List.replicate]; rfl) ?_
          refine en_seq_cond (t := true) (by simp [bV, hz, hlt]) (fun _ => ?_) (fun h => by simp at h)
          refine en_seq_skip ?_
          refine en_seq_block ?_
          refine en_seq_reg rfl (by simp [hmod, hk, hk']; rfl) ?_
          by_cases h1 : i % k = 0
          · have h1' : (i : Int) % k = 0 := by omega
            have hy := ck_yes h0 h1 hc
            generalize ck h k i = M at *
            have ha : hxs M ++ [arC .u8 m] = hxs (M ++ [m]) := by simp [hxs]
            have m1 : (M.length + 1) * 32 ≤ 140737488355328 := by omega
            have m2 : M.length + 1 ≤ maxLen := by unfold maxLen; omega
            refine en_cond (t := true) (by simp [bV, h1, h1']) (fun _ => ?_) (fun h => by simp at h)
            refine en_reg rfl (by simp [hc, m1, m2, ha, hxs_g hc]; rfl) ?_
            simp only [outOf, thenQ, if_true]
            refine en_reg rfl (by simp; rfl) ?_
            simp only [outOf, thenQ, if_true]
            refine ⟨i + 1, by omega, ?_, by omega⟩
            simp [hw, und, List.replicate, hy]
          · have h1' : ¬ (i : Int) % k = 0 := by omega
            have hy := ck_no (h := h) (k := k) (i := i) (by omega)
            generalize ck h k i = M at *
            refine en_cond (t := false) (by simp [bV, h1, h1']) (fun h => by simp at h) (fun _ => ?_)
            refine en_skip ?_
            simp only [outOf, thenQ, if_true]
            refine en_reg rfl (by simp; rfl) ?_
            simp only [outOf, thenQ, if_true]
            refine ⟨i + 1, by omega, ?_, by omega⟩
            simp [hw, und, List.replicate, hy]
        · have hq : ck h k i = ck h k h.length := by
            rcases hi with hi | rfl
            · rw [show i = h.length by omega]
            · have : h.length = 0 ∨ h.length = 1 := by omega
              rcases this with e | e <;> rw [e] <;> simp [ck]
          have hlt' : h.length ≤ i := by omega
          have hz : ¬ ((i : Int) < h.length) := by omega
          rw [hq]
          refine en_seq_reg rfl (by simp [und, List.replicate]; rfl) ?_
          refine en_seq_cond (t := false) (by simp [bV, hlt, hlt', hz]) (fun h => by simp at h) (fun _ => ?_)
          refine en_seq_exit ?_
          simp only [outOf, thenQ, if_true]
          refine en_seq_reg rfl (by simp; rfl) ?_
          refine en_ret ?_
          simp
      · omega
      · omega
      · simp [H20, und, List.replicate, ck]
    · simp at hs
      refine en_seq_cond (t := true) (by simp [bV, hs]) (fun _ => ?_) (fun h => by simp at h)
      refine en_assoc ?_
      refine en_seq_reg rfl (by simp; rfl) ?_
      refine en_seq_ret ?_
      simp [chk, hs]
end
noncomputable def G19 := lift (fun x : { x : (Hs × Hs) × Int // x.1.1.length ≤ 10000 ∧ x.1.2.length ≤ 10000 ∧ x.2 ≤ 9223372036854775807 } => [fcP x.1.1.1 x.1.1.2, iP x.1.2]) fun x => some (.one (hxC (chk x.1.1.1 x.1.1.2 x.1.2)), [])
theorem G19_inj (x y : { x : (Hs × Hs) × Int // x.1.1.length ≤ 10000 ∧ x.1.2.length ≤ 10000 ∧ x.2 ≤ 9223372036854775807 }) (h : (fun x : { x : (Hs × Hs) × Int // x.1.1.length ≤ 10000 ∧ x.1.2.length ≤ 10000 ∧ x.2 ≤ 9223372036854775807 } => ([fcP x.1.1.1 x.1.1.2, iP x.1.2] : List PV)) x = (fun x : { x : (Hs × Hs) × Int // x.1.1.length ≤ 10000 ∧ x.1.2.length ≤ 10000 ∧ x.2 ≤ 9223372036854775807 } => ([fcP x.1.1.1 x.1.1.2, iP x.1.2] : List PV)) y) : x = y := by
  simp at h
  exact Subtype.ext (Prod.ext (Prod.ext (hxs_inj h.1.1) (hxs_inj h.1.2)) h.2)
theorem G19_eq {b h : Hs} {n : Int} (n1 : b.length ≤ 10000) (n2 : h.length ≤ 10000) (n3 : n ≤ 9223372036854775807) : G19 [fcP b h, iP n] = some (.one (hxC (chk b h n)), []) := lift_eq G19_inj ⟨((b, h), n), n1, n2, n3⟩
theorem v19 : Impl Tryd.prog G 19 G19 := impl_of (T := Av.tab [(13, G13)]) mixed htt (Av.tab_ok ⟨v13, trivial⟩) Tryd.func19 body19 (by kernel_rfl) fun ps r ho hF => by
  obtain ⟨x, rfl, h⟩ := lift_inv hF
  injection h with h
  subst h
  exact ⟨_, _, _, w19 _ _ _ x.2.1 x.2.2.1 x.2.2.2 rfl⟩
theorem v20 : Impl Tryd.prog G 20 G19 := impl_of (T := Av.tab [(14, G13)]) mixed htt (Av.tab_ok ⟨v14, trivial⟩) Tryd.func20 body20 (by kernel_rfl) fun ps r ho hF => by
  obtain ⟨x, rfl, h⟩ := lift_inv hF
  injection h with h
  subst h
  exact ⟨_, _, _, w20 _ _ _ x.2.1 x.2.2.1 x.2.2.2 rfl⟩
end Go.Proofs.YtipochhfofhofaaDoor
