import Derived.Test.YtlfnplkjbejekaaW8
import Derived.Test.YtlfnplkjbejekaaW7
import Derived.Test.YtlfnplkjbejekaaShelf
import Derived.WalkKit
import Derived.WalkSpells
namespace Go.Proofs.Ytlfnplkjbejekaa
open Go.RowKit Go.Ab
set_option maxRecDepth 100000
set_option linter.unusedVariables false
theorem clone_nil (c : Nat) (w : World) : Calls Try.prog 25 #[.slice none 0 c] w fun e w' => e = .returned (.slice none 0 0) ∧ w' = w := by
  have h1 : ∀ w, (binOp .eql 24 (.slice none 0 c) (.slice none 0 0)).run Try.prog w = .ok (.bool true) w := fun w => by
    have h : ∀ d : Nat, (Op.equalIn (d + 1) 24 (.slice none 0 c) (.slice none 0 0)).run Try.prog w = .ok true w := fun d => by
      simp [Op.equalIn, run_underlying Try.underlying24]
    have h' : (Op.equal 24 (.slice none 0 c) (.slice none 0 0)).run Try.prog w = .ok true w := h 9999
    simp [binOp, h']
  go_enter Try.func25, Try.ntmps25
  go_wp2
  go_ret
  exact ⟨rfl, rfl⟩
theorem info45 : (Try.prog.info? 45).isSome = true := by kernel_rfl
theorem clone_some (b : Addr) (c : Nat) (w : World) : Calls Try.prog 25 #[.slice (some b) 0 c] w fun e w' => e = .returned (.slice (some ⟨w.heap.size, 0, none⟩) 0 0) ∧ w' = w.alloc (.cells #[] 45) := by
  have h1 : ∀ w, (binOp .eql 24 (.slice (some b) 0 c) (.slice none 0 0)).run Try.prog w = .ok (.bool false) w := fun w => by
    have h : (Op.equal 24 (.slice (some b) 0 c) (.slice none 0 0)).run Try.prog w = .ok false w := eqIn_slice 9999 Try.underlying24
    simp [binOp, h]
  have h2 : ∀ w, (Instr.buildSlice 24 0 #[]).run Try.prog w = .ok (.slice (some ⟨w.heap.size, 0, none⟩) 0 0) (w.alloc (.cells #[] 45)) := fun w => by kernel_rfl
  obtain ⟨i, hi⟩ := Option.isSome_iff_exists.1 info45
  have h3 : ∀ (w : World) (x : Option Addr) ty, (Builtin.append_ #[24, 24] ty #[.slice x 0 0, .slice (some b) 0 c]).run Try.prog w = .ok (.slice x 0 0) w := fun w x ty => run_append_zero w 24 ty 45 i Try.underlying24 hi x (some b) 0 0 c (Nat.le_refl _)
  clear hi
  go_enter Try.func25, Try.ntmps25
  go_wp2
  go_ret
  exact ⟨rfl, rfl⟩
/-- a table of few functions -/
def tab : List (Nat × (List PV → Option PV)) → Tab
  | [], _ => none
  | (g, F) :: l, f => if f = g then some F else tab l f
def AllI (P : Program) : List (Nat × (List PV → Option PV)) → Prop
  | [] => True
  | (g, F) :: l => Impl P g F ∧ AllI P l
theorem tab_ok {P : Program} : ∀ {l : List (Nat × (List PV → Option PV))}, AllI P l → ∀ f F, tab l f = some F → Impl P f F
  | [], _, f, F, h => by simp [tab] at h
  | (g, G) :: l, ha, f, F, h => by
    simp only [tab] at h
    split at h
    · rename_i hf
      simp at h
      subst hf h
      exact ha.1
    · exact tab_ok ha.2 f F h
theorem F23_inv {ps : List PV} {r : PV} (h : F23 ps = some r) : ∃ L, ps = [lsP L] ∧ r = bP (claimsV L) := by
  unfold F23 at h
  split at h
  · split at h <;> simp at h
    rename_i L hL
    exact ⟨L, by rw [lsD_spec hL], h.symm⟩
  · simp at h
theorem F29_inv {ps : List PV} {r : PV} (h : F29 ps = some r) : ∃ d, ps = [.agg (disC d)] ∧ r = bP (soundV d) := by
  unfold F29 at h
  split at h
  · split at h <;> simp at h
    rename_i d hd
    exact ⟨d, by rw [disP_spec hd], h.symm⟩
  · simp at h
theorem F31_inv {ps : List PV} {r : PV} (h : F31 ps = some r) : ∃ L, ps = [lsP L] ∧ r = bP (agreeV L) := by
  unfold F31 at h
  split at h
  · split at h <;> simp at h
    rename_i L hL
    exact ⟨L, by rw [lsD_spec hL], h.symm⟩
  · simp at h
theorem F24_inv {ps : List PV} {r : PV} (h : F24 ps = some r) : ∃ lo hi, ps = [iP lo, iP hi] ∧ r = bP (heightsV lo hi) := by
  unfold F24 at h
  split at h <;> simp at h
  exact ⟨_, _, rfl, h.symm⟩
theorem ls_len {L : List Cl} (h : Okay [lsP L]) : L.length ≤ 9223372036854775807 := by
  have := Okay.len (i := 0) h rfl
  simpa [maxLen] using this
theorem impl23 : Impl Try.prog 23 F23 := impl_of (T := tab []) mixed htt (tab_ok trivial) Try.func23 body23 (by kernel_rfl) okc23 fun ps r ho hF => by
  obtain ⟨L, rfl, rfl⟩ := F23_inv hF
  exact ⟨_, _, w23 L (ls_len ho)⟩
theorem impl26 : Impl Try.prog 26 F23 := impl_of (T := tab []) mixed htt (tab_ok trivial) Try.func26 body26 (by kernel_rfl) okc26 fun ps r ho hF => by
  obtain ⟨L, rfl, rfl⟩ := F23_inv hF
  exact ⟨_, _, w26 L (ls_len ho)⟩
theorem impl31 : Impl Try.prog 31 F31 := impl_of (T := tab []) mixed htt (tab_ok trivial) Try.func31 body31 (by kernel_rfl) okc31 fun ps r ho hF => by
  obtain ⟨L, rfl, rfl⟩ := F31_inv hF
  exact ⟨_, _, w31 L (ls_len ho)⟩
theorem impl32 : Impl Try.prog 32 F31 := impl_of (T := tab []) mixed htt (tab_ok trivial) Try.func32 body32 (by kernel_rfl) okc32 fun ps r ho hF => by
  obtain ⟨L, rfl, rfl⟩ := F31_inv hF
  exact ⟨_, _, w32 L (ls_len ho)⟩
theorem impl24 : Impl Try.prog 24 F24 := impl_of (T := tab []) mixed htt (tab_ok trivial) Try.func24 body24 (by kernel_rfl) okc24 fun ps r ho hF => by
  obtain ⟨lo, hi, rfl, rfl⟩ := F24_inv hF
  exact ⟨_, _, w24 lo hi⟩
theorem impl27 : Impl Try.prog 27 F24 := impl_of (T := tab []) mixed htt (tab_ok trivial) Try.func27 body27 (by kernel_rfl) okc27 fun ps r ho hF => by
  obtain ⟨lo, hi, rfl, rfl⟩ := F24_inv hF
  exact ⟨_, _, w27 lo hi⟩
theorem impl29 : Impl Try.prog 29 F29 := impl_of (T := tab [(23, F23), (24, F24)]) mixed htt (tab_ok ⟨impl23, impl24, trivial⟩) Try.func29 body29 (by kernel_rfl) okc29 fun ps r ho hF => by
  obtain ⟨d, rfl, rfl⟩ := F29_inv hF
  exact ⟨_, _, w29 d rfl rfl⟩
theorem impl30 : Impl Try.prog 30 F29 := impl_of (T := tab [(26, F23), (27, F24)]) mixed htt (tab_ok ⟨impl26, impl27, trivial⟩) Try.func30 body30 (by kernel_rfl) okc30 fun ps r ho hF => by
  obtain ⟨d, rfl, rfl⟩ := F29_inv hF
  exact ⟨_, _, w30 d rfl rfl⟩
theorem F14_inv {ps : List PV} {r : PV} (h : F14 ps = some r) : ∃ d, ps = [.agg (disC d)] ∧ r = bP (openV d) := by
  unfold F14 at h
  split at h
  · split at h <;> simp at h
    rename_i d hd
    exact ⟨d, by rw [disP_spec hd], h.symm⟩
  · simp at h
theorem F12_inv {ps : List PV} {r : PV} (h : F12 ps = some r) : ∃ d, ps = [.agg (disC d)] ∧ r = .tup [iP (askV d).1, bP (askV d).2] := by
  unfold F12 at h
  split at h
  · split at h <;> simp at h
    rename_i d hd
    exact ⟨d, by rw [disP_spec hd], h.symm⟩
  · simp at h
theorem impl14 : Impl Try.prog 14 F14 := impl_of (T := tab [(29, F29), (31, F31)]) mixed htt (tab_ok ⟨impl29, impl31, trivial⟩) Try.func14 body14 (by kernel_rfl) okc14 fun ps r ho hF => by
  obtain ⟨d, rfl, rfl⟩ := F14_inv hF
  exact ⟨_, _, w14 d rfl rfl⟩
theorem impl15 : Impl Try.prog 15 F14 := impl_of (T := tab [(30, F29), (32, F31)]) mixed htt (tab_ok ⟨impl30, impl32, trivial⟩) Try.func15 body15 (by kernel_rfl) okc15 fun ps r ho hF => by
  obtain ⟨d, rfl, rfl⟩ := F14_inv hF
  exact ⟨_, _, w15 d rfl rfl⟩
theorem impl12 : Impl Try.prog 12 F12 := impl_of (T := tab [(29, F29)]) mixed htt (tab_ok ⟨impl29, trivial⟩) Try.func12 body12 (by kernel_rfl) okc12 fun ps r ho hF => by
  obtain ⟨d, rfl, rfl⟩ := F12_inv hF
  exact ⟨_, _, w12 d rfl⟩
theorem impl13 : Impl Try.prog 13 F12 := impl_of (T := tab [(30, F29)]) mixed htt (tab_ok ⟨impl30, trivial⟩) Try.func13 body13 (by kernel_rfl) okc13 fun ps r ho hF => by
  obtain ⟨d, rfl, rfl⟩ := F12_inv hF
  exact ⟨_, _, w13 d rfl⟩
theorem FCl_inv {ps : List PV} {r : PV} (h : FCl ps = some r) : ∃ L, ps = [lsP L] ∧ r = lsP L ∧ L.length ≤ 64 := by
  unfold FCl at h
  split at h
  · split at h
    · rename_i L hL
      split at h <;> simp at h
      rename_i hl
      exact ⟨L, by rw [lsD_spec hL], h.symm, hl⟩
    · simp at h
  · simp at h
theorem impl28 : Impl Try.prog 28 FCl := impl_of (T := tab []) mixed htt (tab_ok trivial) Try.func28 body28 (by kernel_rfl) okc28 fun ps r ho hF => by
  obtain ⟨L, rfl, rfl, hl⟩ := FCl_inv hF
  exact ⟨_, _, w28 L (by omega)⟩
theorem F34_inv {ps : List PV} {r : PV} (h : F34 ps = some r) : ∃ L q, ps = [lsP L, iP q] ∧ r = iP (ofV q L 0) := by
  unfold F34 at h
  split at h
  · split at h <;> simp at h
    rename_i L hL
    exact ⟨L, _, by rw [lsD_spec hL], h.symm⟩
  · simp at h
theorem impl34 : Impl Try.prog 34 F34 := impl_of (T := tab []) mixed htt (tab_ok trivial) Try.func34 body34 (by kernel_rfl) okc34 fun ps r ho hF => by
  obtain ⟨L, q, rfl, rfl⟩ := F34_inv hF
  exact ⟨_, _, w34 L q (by have := Okay.len (i := 0) ho rfl; simpa [maxLen] using this)⟩
theorem impl33 : Impl Try.prog 33 F33 := by
  refine ⟨⟨_, Try.func33, by kernel_rfl, by kernel_rfl⟩, fun S w ps vs r hl hd hr hF => ?_⟩
  unfold F33 at hF
  split at hF
  · split at hF <;> simp at hF
    rename_i x hx
    subst hF
    cases hr with
    | cons h1 h2 =>
      cases h2
      cases h1 with
      | one h1 =>
        cases h1
        refine (Try.bits_Len64 x w hx.1 hx.2).mono ?_
        rintro e w' ⟨rfl, rfl⟩
        exact ⟨_, S, rfl, .base (.one (.v _ rfl (by simp))), Grow.refl hl⟩
  · simp at hF
def F16 : List PV → Option PV
  | [.one (.v (.int .i64 lo)), .one (.v (.int .i64 hi))] => if -9223372036854775808 ≤ lo ∧ lo ≤ 9223372036854775807 ∧ -9223372036854775808 ≤ hi ∧ hi ≤ 9223372036854775807 then some (iP (roundsV lo hi)) else none
  | _ => none
theorem F16_inv {ps : List PV} {r : PV} (h : F16 ps = some r) : ∃ lo hi, ps = [iP lo, iP hi] ∧ r = iP (roundsV lo hi) ∧ In64 lo ∧ In64 hi := by
  unfold F16 at h
  split at h
  · split at h <;> simp at h
    rename_i hh
    exact ⟨_, _, rfl, h.symm, ⟨hh.1, hh.2.1⟩, ⟨hh.2.2.1, hh.2.2.2⟩⟩
  · simp at h
theorem impl16 : Impl Try.prog 16 F16 := impl_of (T := tab [(33, F33)]) mixed htt (tab_ok ⟨impl33, trivial⟩) Try.func16 body16 (by kernel_rfl) okc16 fun ps r ho hF => by
  obtain ⟨lo, hi, rfl, rfl, h1, h2⟩ := F16_inv hF
  exact ⟨_, _, w16 lo hi h1 h2 rfl⟩
theorem impl17 : Impl Try.prog 17 F16 := impl_of (T := tab []) mixed htt (tab_ok trivial) Try.func17 body17 (by kernel_rfl) okc17 fun ps r ho hF => by
  obtain ⟨lo, hi, rfl, rfl, h1, h2⟩ := F16_inv hF
  exact ⟨_, _, w17 lo hi h1 h2⟩
end Go.Proofs.Ytlfnplkjbejekaa
