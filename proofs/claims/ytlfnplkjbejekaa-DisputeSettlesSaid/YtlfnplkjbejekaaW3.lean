import Derived.Test.YtlfnplkjbejekaaW2
namespace Go.Proofs.Ytlfnplkjbejekaa
open Go.Ab
set_option maxRecDepth 100000
set_option linter.unusedSimpArgs false
set_option linter.unusedVariables false
section
variable {T : Tab}
def kp26 : Keep := fun _ => ([0, 7, 8, 9], 0)
def H26 (els : List (List Cell)) (n : Nat) (k : Nat) : ASt :=
  ⟨[.one (.slice .no els), .undef, .undef, .undef, .undef, .undef, .undef, .one (.slice .no els), iP n, iP k] ++ und 27, []⟩
def prevB (L : List Cl) (k : Nat) : Int := match k with | 0 => -1 | k + 1 => (match L[k]? with | some c => c.peer | none => -1)
theorem w26 (L : List Cl) (hm : L.length ≤ 9223372036854775807) : execFn tt T kp26 (L.length + 1) Try.f26 [lsP L] = some (bP (claimsV L)) := by
  refine fn_ends body26 ?_
  unfold c26
  rw [Try.ntmps26]
  refine en_seq_reg rfl (by simp; rfl) ?_
  refine en_assoc ?_
  refine en_seq_reg rfl (by simp; rfl) ?_
  refine en_seq_cond (by simp; rfl) (fun h => ?_) (fun h => ?_)
  · simp at h
    refine en_assoc ?_
    refine en_seq_reg rfl (by simp; rfl) ?_
    refine en_seq_ret ?_
    have : ¬ L.length ≤ 64 := by omega
    simp [claimsV, this]
  simp at h
  have hl : L.length ≤ 64 := by omega
  refine en_seq_skip ?_
  refine en_assoc ?_
  refine en_seq_reg rfl (by simp; rfl) ?_
  refine en_seq_block (en_loop (kq := ([0, 7, 8, 9], 0)) rfl ?_)
  refine it_inv (H26 (L.map clC) L.length) (fun k => k ≤ L.length ∧ ascB (-1) L = ascB (prevB L k) (L.drop k) ∧ -1 ≤ prevB L k ∧ (0 < k → 0 ≤ prevB L k)) (fun k => L.length - k) ?_ _ 0 _ ?_ ?_ ?_
  · rintro k ⟨hk, ha, hp, hp0⟩
    unfold b26_1 H26
    by_cases hlt : k < L.length
    · have hc : L[k]? = some L[k] := by simp [hlt]
      have hd : L.drop k = L[k] :: L.drop (k + 1) := List.drop_eq_getElem_cons hlt
      generalize L[k] = c at hc hd
      rw [hd] at ha
      have hnext : prevB L (k + 1) = c.peer := by simp [prevB, hc]
      have hbad : ¬ prevB L k < c.peer → claimsV L = false := by
        intro hb
        simp [claimsV, ha, ascB, hb]
      have hgood : prevB L k < c.peer → ∀ (st : ASt), forget [0, 7, 8, 9] 0 st = H26 (L.map clC) L.length (k + 1) → ∃ y, (y ≤ L.length ∧ ascB (-1) L = ascB (prevB L y) (L.drop y) ∧ -1 ≤ prevB L y ∧ (0 < y → 0 ≤ prevB L y)) ∧ forget [0, 7, 8, 9] 0 st = H26 (L.map clC) L.length y ∧ L.length - y < L.length - k := by
        intro hg st hst
        refine ⟨k + 1, ⟨by omega, ?_, by omega, fun _ => by omega⟩, hst, by omega⟩
        rw [ha, hnext]
        simp [ascB, hg]
      have hw := wrap_in (n := (k : Int) + 1) (by unfold In64; omega)
      refine en_seq_reg rfl (by simp [und, List.replicate]; rfl) ?_
      refine en_seq_cond (t := true) (by simp [bV, hlt]) (fun _ => ?_) (fun h => by simp at h)
      refine en_seq_skip ?_
      refine en_seq_block ?_
      refine en_seq_reg rfl (by simp; rfl) ?_
      by_cases h0 : c.peer < 0
      · refine en_seq_reg rfl (by simp [hc, h0]; rfl) ?_
        refine en_cond (t := true) (by simp [bV]) (fun _ => ?_) (fun h => by simp at h)
        refine en_seq_reg rfl (by simp; rfl) ?_
        refine en_ret ?_
        simp
        exact hbad (by omega)
      · by_cases hk0 : 0 < k
        · obtain ⟨j, hkj⟩ : ∃ j, k = j + 1 := ⟨k - 1, by omega⟩
          have hj : L[j]? = some L[j] := by simp [show j < L.length by omega]
          generalize L[j] = b at hj
          have hpb : prevB L k = b.peer := by rw [hkj]; simp [prevB, hj]
          have hw1 : IntKind.i64.wrap ((k : Int) - 1) = (j : Int) := by rw [wrap_in (by unfold In64; omega)]; omega
          clear hkj
          refine en_seq_reg rfl (by simp [hc, h0, hj, hw1, hk0]; rfl) ?_
          refine en_cond (by simp; rfl) (fun h => ?_) (fun h => ?_)
          · refine en_seq_reg rfl (by simp; rfl) ?_
            refine en_ret ?_
            simp at h
            simp
            exact hbad (by omega)
          · refine en_skip ?_
            simp only [outOf, thenQ, if_true]
            refine en_reg rfl (by simp; rfl) ?_
            simp at h
            refine hgood (by omega) _ ?_
            simp [H26, und, List.replicate]
            simpa using hw
        · have hk' : k = 0 := by omega
          subst hk'
          refine en_seq_reg rfl (by simp [hc, h0]; rfl) ?_
          refine en_cond (t := false) (by simp [bV]) (fun h => by simp at h) (fun _ => ?_)
          refine en_skip ?_
          simp only [outOf, thenQ, if_true]
          refine en_reg rfl (by simp; rfl) ?_
          have : prevB L 0 = -1 := rfl
          refine hgood (by omega) _ ?_
          simp [H26, und, List.replicate]
          simpa using hw
    · have hk' : k = L.length := by omega
      subst hk'
      refine en_seq_reg rfl (by simp [und, List.replicate]; rfl) ?_
      refine en_seq_cond (t := false) (by simp [bV]) (fun h => by simp at h) (fun _ => ?_)
      refine en_seq_exit ?_
      simp
      refine en_seq_reg rfl (by simp; rfl) ?_
      refine en_ret ?_
      simp [claimsV, ha, ascB, hl]
  · refine ⟨Nat.zero_le _, rfl, by simp [prevB], fun h => absurd h (by omega)⟩
  · simp
  · simp [H26, und, List.replicate]
theorem w27 (lo hi : Int) : execFn tt T kp23 0 Try.f27 [iP lo, iP hi] = some (bP (heightsV lo hi)) := by
  refine fn_ends body27 ?_
  unfold c27
  rw [Try.ntmps27]
  unfold heightsV
  by_cases h1 : 0 ≤ lo
  · by_cases h2 : lo < hi
    all_goals
      refine en_seq_reg rfl (by simp; rfl) ?_
      refine en_seq_reg rfl (by simp [h1, h2]; rfl) ?_
      refine en_ret ?_
      simp [h1, h2]
  · refine en_seq_reg rfl (by simp; rfl) ?_
    refine en_seq_reg rfl (by simp [h1]; rfl) ?_
    refine en_ret ?_
    simp [h1]
theorem w30 (d : Dis) (h23 : T 26 = some F23) (h24 : T 27 = some F24) : execFn tt T kp23 0 Try.f30 [.agg (disC d)] = some (bP (soundV d)) := by
  refine fn_ends body30 ?_
  unfold c30
  rw [Try.ntmps30]
  unfold soundV
  have e23 := F23_eq d.cl
  cases h1 : heightsV d.lo d.hi
  · refine en_seq_reg rfl (by simp [h23, h24, F24, e23]; rfl) ?_
    refine en_seq_reg rfl (by simp [h23, h24, F24, e23, h1]; rfl) ?_
    refine en_ret ?_
    simp
  · by_cases h2 : 0 < d.cl.length
    all_goals
      refine en_seq_reg rfl (by simp; rfl) ?_
      refine en_seq_reg rfl (by simp [h23, h24, F24, e23, h1, h2]; rfl) ?_
      refine en_ret ?_
      simp [h2]
theorem w28 (L : List Cl) (hm : L.length * 40 ≤ 140737488355328) : execFn tt T kp23 0 Try.f28 [lsP L] = some (lsP L) := by
  refine fn_ends body28 ?_
  unfold c28
  rw [Try.ntmps28]
  have : L.length ≤ maxLen := by unfold maxLen; omega
  refine en_seq_reg rfl (by simp; rfl) ?_
  refine en_seq_reg rfl (by simp [hm, this]; rfl) ?_
  refine en_ret ?_
  simp
end
end Go.Proofs.Ytlfnplkjbejekaa
