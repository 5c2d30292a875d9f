import Derived.Test.YtlfnplkjbejekaaI1
namespace Go.Proofs.Ytlfnplkjbejekaa
open Go.RowKit Go.Ab
set_option maxRecDepth 100000
set_option linter.unusedSimpArgs false
set_option linter.unusedVariables false
section
variable {T : Tab}
theorem w25 (L : List Cl) (hne : L ≠ []) (hl : L.length ≤ 64) : execFn tt T kp23 0 Try.f25 [lsP L] = some (lsP L) := by
  refine fn_ends body25 ?_
  unfold c25
  rw [Try.ntmps25]
  have b1 : L.length * 40 ≤ 140737488355328 := by omega
  have b2 : L.length ≤ maxLen := by unfold maxLen; omega
  refine en_seq_reg rfl (by simp; rfl) ?_
  refine en_assoc ?_
  refine en_seq_reg rfl (by simp [hne]; rfl) ?_
  refine en_seq_cond (t := false) (by simp [bV]) (fun h => by simp at h) (fun _ => ?_)
  refine en_seq_skip ?_
  refine en_seq_reg rfl (by simp [b1, b2]; rfl) ?_
  refine en_ret ?_
  simp
theorem w8 (L : List Cl) : execFn tt T kp23 0 Try.f8 [lsP L] = some (bP (decide (L.length ≤ 70))) := by
  refine fn_ends body8 ?_
  unfold c8
  rw [Try.ntmps8]
  refine en_seq_reg rfl (by simp; rfl) ?_
  refine en_seq_reg rfl (by simp; rfl) ?_
  refine en_ret ?_
  simp
  omega
end
def FCn : List PV → Option PV
  | [p] => (match lsD p with | some L => if L.length ≤ 64 ∧ L ≠ [] then some (lsP L) else none | none => none)
  | _ => none
theorem impl25n : Impl Try.prog 25 FCn := impl_of (T := tab []) mixed htt (tab_ok trivial) Try.func25 body25 (by kernel_rfl) okc25 fun ps r ho hF => by
  unfold FCn at hF
  split at hF
  · split at hF
    · rename_i L hL
      split at hF <;> simp at hF
      rename_i hh
      subst hF
      rw [lsD_spec hL]
      exact ⟨_, _, w25 L hh.2 hh.1⟩
    · simp at hF
  · simp at hF
theorem impl25 : Impl Try.prog 25 FCl := by
  refine ⟨⟨_, Try.func25, by kernel_rfl, by kernel_rfl⟩, fun S w ps vs r hl hd hr hF => ?_⟩
  obtain ⟨L, rfl, rfl, hlen⟩ := FCl_inv hF
  by_cases hne : L = []
  · subst hne
    cases hr with
    | cons h1 h2 =>
      cases h2
      cases h1 with
      | one h1 =>
        obtain ⟨x, c, rfl⟩ := RepC.nil_no (by simpa using h1)
        cases x with
        | none =>
          refine (clone_nil c w).mono ?_
          rintro e w' ⟨rfl, rfl⟩
          exact ⟨_, S, rfl, .base (.one (RepC.no_empty none (e := 1) (by omega))), Grow.refl hl⟩
        | some b =>
          refine (clone_some b c w).mono ?_
          rintro e w' ⟨rfl, rfl⟩
          exact ⟨_, S, rfl, .base (.one (RepC.no_empty _ (e := 1) (by omega))), grow_alloc hl _⟩
  · refine impl25n.2 S w _ vs _ hl hd hr ?_
    simp only [FCn, lsD_lsP]
    rw [if_pos ⟨hlen, hne⟩]
def F8 : List PV → Option PV
  | [p] => (match lsD p with | some L => some (bP (decide (L.length ≤ 70))) | none => none)
  | _ => none
@[simp] theorem F8_eq (L : List Cl) : F8 [lsP L] = some (bP (decide (L.length ≤ 70))) := by simp only [F8, lsD_lsP]
theorem impl8 : Impl Try.prog 8 F8 := impl_of (T := tab []) mixed htt (tab_ok trivial) Try.func8 body8 (by kernel_rfl) okc8 fun ps r ho hF => by
  unfold F8 at hF
  split at hF
  · split at hF <;> simp at hF
    rename_i L hL
    subst hF
    rw [lsD_spec hL]
    exact ⟨_, _, w8 L⟩
  · simp at hF
def hP (p : PV) : Option Hs := match p with | .agg cs => hD cs | _ => none
theorem hP_spec {p : PV} {h : Hs} (e : hP p = some h) : p = .agg (hC h) := by
  unfold hP at e
  split at e
  · rw [hD_spec e]
  · simp at e
@[simp] theorem hP_eq (h : Hs) : hP (.agg (hC h)) = some h := hD_hC h
def F9 : List PV → Option PV
  | [.one (.v (.int .i64 lo)), p, .one (.v (.int .i64 hi)), q] => (match hP p, lsD q with | some ag, some L => some (.tup [dP (beginV lo ag hi L).1, iP (beginV lo ag hi L).2]) | _, _ => none)
  | _ => none
theorem F9_eq (lo : Int) (ag : Hs) (hi : Int) (L : List Cl) : F9 [iP lo, .agg (hC ag), iP hi, lsP L] = some (.tup [dP (beginV lo ag hi L).1, iP (beginV lo ag hi L).2]) := by simp only [F9, hP_eq, lsD_lsP]
theorem F9_inv {ps : List PV} {r : PV} (h : F9 ps = some r) : ∃ lo ag hi L, ps = [iP lo, .agg (hC ag), iP hi, lsP L] ∧ r = .tup [dP (beginV lo ag hi L).1, iP (beginV lo ag hi L).2] := by
  unfold F9 at h
  split at h
  · split at h <;> simp at h
    rename_i ag L h1 h2
    exact ⟨_, ag, _, L, by rw [hP_spec h1, lsD_spec h2], h.symm⟩
  · simp at h
theorem impl9 : Impl Try.prog 9 F9 := impl_of (T := tab [(23, F23), (24, F24), (25, FCl)]) mixed htt (tab_ok ⟨impl23, impl24, impl25, trivial⟩) Try.func9 body9 (by kernel_rfl) okc9 fun ps r ho hF => by
  obtain ⟨lo, ag, hi, L, rfl, rfl⟩ := F9_inv hF
  exact ⟨_, _, w9 lo ag hi L rfl rfl rfl⟩
theorem impl10 : Impl Try.prog 10 F9 := impl_of (T := tab [(26, F23), (27, F24), (28, FCl)]) mixed htt (tab_ok ⟨impl26, impl27, impl28, trivial⟩) Try.func10 body10 (by kernel_rfl) okc10 fun ps r ho hF => by
  obtain ⟨lo, ag, hi, L, rfl, rfl⟩ := F9_inv hF
  exact ⟨_, _, w10 lo ag hi L rfl rfl rfl⟩
def F18 : List PV → Option PV
  | [p, q] => (match disP p, lsD q with | some d, some L => some (.tup [dP (answerV d L).1, isP (answerV d L).2.1, iP (answerV d L).2.2]) | _, _ => none)
  | _ => none
theorem F18_eq (d : Dis) (L : List Cl) : F18 [.agg (disC d), lsP L] = some (.tup [dP (answerV d L).1, isP (answerV d L).2.1, iP (answerV d L).2.2]) := by simp only [F18, disP_eq, lsD_lsP]
theorem F18_inv {ps : List PV} {r : PV} (h : F18 ps = some r) : ∃ d L, ps = [.agg (disC d), lsP L] ∧ r = .tup [dP (answerV d L).1, isP (answerV d L).2.1, iP (answerV d L).2.2] := by
  unfold F18 at h
  split at h
  · split at h <;> simp at h
    rename_i d L h1 h2
    exact ⟨d, L, by rw [disP_spec h1, lsD_spec h2], h.symm⟩
  · simp at h
theorem impl18 : Impl Try.prog 18 F18 := impl_of (T := tab [(29, F29), (23, F23), (12, F12), (31, F31)]) mixed htt (tab_ok ⟨impl29, impl23, impl12, impl31, trivial⟩) Try.func18 body18 (by kernel_rfl) okc18 fun ps r ho hF => by
  obtain ⟨d, L, rfl, rfl⟩ := F18_inv hF
  exact ⟨_, _, w18 d L rfl rfl rfl rfl⟩
theorem impl19 : Impl Try.prog 19 F18 := impl_of (T := tab [(30, F29), (26, F23), (13, F12), (32, F31), (34, F34)]) mixed htt (tab_ok ⟨impl30, impl26, impl13, impl32, impl34, trivial⟩) Try.func19 body19 (by kernel_rfl) okc19 fun ps r ho hF => by
  obtain ⟨d, L, rfl, rfl⟩ := F18_inv hF
  exact ⟨_, _, w19 d L rfl rfl rfl rfl rfl⟩
def F21 : List PV → Option PV
  | [p, q] => (match disP p, hP q with | some d, some h => some (.tup [dP (settleV d h).1, isP (settleV d h).2.1, iP (settleV d h).2.2]) | _, _ => none)
  | _ => none
theorem F21_eq (d : Dis) (h : Hs) : F21 [.agg (disC d), .agg (hC h)] = some (.tup [dP (settleV d h).1, isP (settleV d h).2.1, iP (settleV d h).2.2]) := by simp only [F21, disP_eq, hP_eq]
theorem F21_inv {ps : List PV} {r : PV} (h : F21 ps = some r) : ∃ d x, ps = [.agg (disC d), .agg (hC x)] ∧ r = .tup [dP (settleV d x).1, isP (settleV d x).2.1, iP (settleV d x).2.2] := by
  unfold F21 at h
  split at h
  · split at h <;> simp at h
    rename_i d x h1 h2
    exact ⟨d, x, by rw [disP_spec h1, hP_spec h2], h.symm⟩
  · simp at h
theorem impl21 : Impl Try.prog 21 F21 := impl_of (T := tab [(29, F29)]) mixed htt (tab_ok ⟨impl29, trivial⟩) Try.func21 body21 (by kernel_rfl) okc21 fun ps r ho hF => by
  obtain ⟨d, x, rfl, rfl⟩ := F21_inv hF
  exact ⟨_, _, w21 d x rfl⟩
theorem impl22 : Impl Try.prog 22 F21 := impl_of (T := tab [(30, F29)]) mixed htt (tab_ok ⟨impl30, trivial⟩) Try.func22 body22 (by kernel_rfl) okc22 fun ps r ho hF => by
  obtain ⟨d, x, rfl, rfl⟩ := F21_inv hF
  exact ⟨_, _, w22 d x rfl⟩
def F11 : List PV → Option PV
  | [p, q] => (match disP p, disP q with | some a, some b => some (bP (decide (a = b))) | _, _ => none)
  | _ => none
theorem F11_eq (a b : Dis) : F11 [.agg (disC a), .agg (disC b)] = some (bP (decide (a = b))) := by simp only [F11, disP_eq]
theorem F11_inv {ps : List PV} {r : PV} (h : F11 ps = some r) : ∃ a b, ps = [.agg (disC a), .agg (disC b)] ∧ r = bP (decide (a = b)) := by
  unfold F11 at h
  split at h
  · split at h <;> simp at h
    rename_i a b h1 h2
    exact ⟨a, b, by rw [disP_spec h1, disP_spec h2], h.symm⟩
  · simp at h
theorem impl11 : Impl Try.prog 11 F11 := impl_of (T := tab []) mixed htt (tab_ok trivial) Try.func11 body11 (by kernel_rfl) okc11 fun ps r ho hF => by
  obtain ⟨a, b, rfl, rfl⟩ := F11_inv hF
  exact ⟨_, _, w11 a b (by have := Okay.lenA (i := 0) (j := 34) ho rfl (disC_34 a); simpa [maxLen] using this)⟩
def F20 : List PV → Option PV
  | [p, q] => (match isD p, isD q with | some a, some b => some (bP (decide (a = b))) | _, _ => none)
  | _ => none
theorem F20_eq (a b : List Int) : F20 [isP a, isP b] = some (bP (decide (a = b))) := by simp only [F20, isD_isP]
theorem F20_inv {ps : List PV} {r : PV} (h : F20 ps = some r) : ∃ a b, ps = [isP a, isP b] ∧ r = bP (decide (a = b)) := by
  unfold F20 at h
  split at h
  · split at h <;> simp at h
    rename_i a b h1 h2
    exact ⟨a, b, by rw [isD_spec h1, isD_spec h2], h.symm⟩
  · simp at h
theorem impl20 : Impl Try.prog 20 F20 := impl_of (T := tab []) mixed htt (tab_ok trivial) Try.func20 body20 (by kernel_rfl) okc20 fun ps r ho hF => by
  obtain ⟨a, b, rfl, rfl⟩ := F20_inv hF
  exact ⟨_, _, w20 a b (by have := Okay.len (i := 0) ho rfl; simpa [maxLen] using this)⟩
end Go.Proofs.Ytlfnplkjbejekaa
