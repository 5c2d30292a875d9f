import Derived.Test.YtlfnplkjbejekaaW6
namespace Go.Proofs.Ytlfnplkjbejekaa
open Go.Ab
set_option maxRecDepth 100000
set_option linter.unusedSimpArgs false
set_option linter.unusedVariables false
section
variable {T : Tab}
def kp19 : Keep := fun _ => ([1, 2, 4, 7, 9, 10, 11, 32, 33, 34], 2)
def H19 (d : Dis) (L : List Cl) (hh : Int) (k : Nat) : ASt :=
  ⟨[.undef, lsP L, .ptr 0 0, .undef, .ptr 1 0, .undef, .undef, iP hh, .undef, .one (.slice (.tip 33) ((oldV L (d.cl.take k)).map clC)), .one (.slice (.tip 33) ((ansV L (d.cl.take k)).map clC)), .one (.slice (.tip 1) ((silV L (d.cl.take k)).map intC))] ++ und 20 ++ [lsP d.cl, iP d.cl.length, iP k] ++ und 50,
   [⟨disC d, false⟩, ⟨zB, false⟩]⟩
set_option maxHeartbeats 2000000 in
theorem w19 (d : Dis) (L : List Cl) (h29 : T 30 = some F29) (h23 : T 26 = some F23) (h12 : T 13 = some F12) (h31 : T 32 = some F31) (h34 : T 34 = some F34) :
    execFn tt T kp19 70 Try.f19 [.agg (disC d), lsP L] = some (.tup [dP (answerV d L).1, isP (answerV d L).2.1, iP (answerV d L).2.2]) := by
  refine fn_ends body19 ?_
  unfold c19
  rw [Try.ntmps19]
  unfold answerV
  simp only [isP_eq]
  have e23 := F23_eq L
  cases hs : soundV d
  · refine en_seq_reg rfl (by simp; rfl) ?_
    refine en_assoc ?_
    refine en_seq_reg rfl (by simp [h29, h23, e23, hs]; rfl) ?_
    refine en_seq_cond (t := true) (by simp [bV]) (fun _ => ?_) (fun h => by simp at h)
    refine en_assoc ?_
    refine en_seq_reg rfl (by simp; rfl) ?_
    refine en_seq_ret ?_
    simp [zeroDis, zeroH, disC, hC, by8, List.replicate]
  cases hcl : claimsV L
  · refine en_seq_reg rfl (by simp; rfl) ?_
    refine en_assoc ?_
    refine en_seq_reg rfl (by simp [h29, h23, e23, hs, hcl]; rfl) ?_
    refine en_seq_cond (t := true) (by simp [bV]) (fun _ => ?_) (fun h => by simp at h)
    refine en_assoc ?_
    refine en_seq_reg rfl (by simp; rfl) ?_
    refine en_seq_ret ?_
    simp [zeroDis, zeroH, disC, hC, by8, List.replicate]
  have hl := sound_len hs
  simp only [Bool.and_self, if_true]
  refine en_seq_reg rfl (by simp; rfl) ?_
  refine en_assoc ?_
  refine en_seq_reg rfl (by simp [h29, h23, e23, hs, hcl]; rfl) ?_
  refine en_seq_cond (t := false) (by simp [bV]) (fun h => by simp at h) (fun _ => ?_)
  refine en_seq_skip ?_
  have e12 := F12_eq d
  refine en_seq_reg rfl (by simp [h12, e12]; rfl) ?_
  cases hlast : (askV d).2
  case true =>
    refine en_assoc ?_
    refine en_seq_reg rfl (by simp [hlast]; rfl) ?_
    refine en_seq_cond (t := true) (by simp [bV]) (fun _ => ?_) (fun h => by simp at h)
    refine en_assoc ?_
    refine en_seq_reg rfl (by simp; rfl) ?_
    refine en_seq_ret ?_
    simp [zeroDis, zeroH, disC, hC, by8, List.replicate]
  simp only [Bool.false_eq_true, if_false]
  generalize (askV d).1 = hh
  refine en_assoc ?_
  refine en_seq_reg rfl (by simp [hlast]; rfl) ?_
  refine en_seq_cond (t := false) (by simp [bV]) (fun h => by simp at h) (fun _ => ?_)
  refine en_seq_skip ?_
  refine en_seq_reg rfl (by simp; rfl) ?_
  refine en_seq_reg rfl (by simp; rfl) ?_
  refine en_assoc ?_
  refine en_seq_reg rfl (by simp; rfl) ?_
  refine en_seq_block (en_loop (kq := ([1, 2, 4, 7, 9, 10, 11, 32, 33, 34], 2)) rfl ?_)
  refine it_inv (H19 d L hh) (fun k => k ≤ d.cl.length) (fun k => d.cl.length - k) ?_ _ 0 _ ?_ ?_ ?_
  · intro k hk
    have g1 := old_len L d.cl k
    have g2 := ans_len L d.cl k
    have g3 := sil_len L d.cl k
    unfold b19_1 H19
    by_cases hlt : k < d.cl.length
    · have hc : d.cl[k]? = some d.cl[k] := by simp [hlt]
      generalize d.cl[k] = c at hc
      have ht := take_snoc hc
      have hw := wrap_in (n := (k : Int) + 1) (by unfold In64; omega)
      have b1 : ((oldV L (d.cl.take k)).length + 1) * 40 ≤ 140737488355328 := by omega
      have b2 : (oldV L (d.cl.take k)).length + 1 ≤ maxLen := by unfold maxLen; omega
      have b3 : ((ansV L (d.cl.take k)).length + 1) * 40 ≤ 140737488355328 := by omega
      have b4 : (ansV L (d.cl.take k)).length + 1 ≤ maxLen := by unfold maxLen; omega
      have b5 : ((silV L (d.cl.take k)).length + 1) * 8 ≤ 140737488355328 := by omega
      have b6 : (silV L (d.cl.take k)).length + 1 ≤ maxLen := by unfold maxLen; omega
      have e34 := F34_eq L c.peer
      have hof := of_find L c.peer 0
      cases hf : findP L c.peer with
      | some x =>
        rw [hf] at hof
        obtain ⟨j, hj, hx⟩ := hof
        rw [Nat.zero_add] at hj
        rw [hj] at e34
        refine en_seq_reg rfl (by simp [und, List.replicate]; rfl) ?_
        refine en_seq_cond (t := true) (by simp [bV, hlt]) (fun _ => ?_) (fun h => by simp at h)
        refine en_seq_skip ?_
        refine en_seq_block ?_
        refine en_seq_reg rfl (by simp [hc]; rfl) ?_
        refine en_seq_reg rfl (by simp [h34, e34]; rfl) ?_
        refine en_seq_reg rfl (by simp; rfl) ?_
        refine en_cond (t := true) (by simp [bV]) (fun _ => ?_) (fun h => by simp at h)
        refine en_reg rfl (by simp [b1, b2, b3, b4, hx]; rfl) ?_
        simp only [outOf, thenQ, if_true]
        refine en_reg rfl (by simp; rfl) ?_
        simp only [outOf, thenQ, if_true]
        refine ⟨k + 1, by omega, ?_, by omega⟩
        simp [H19, und, List.replicate, hw, zB, ht, oldV, ansV, silV, hf]
      | none =>
        rw [hf] at hof
        simp only at hof
        rw [hof] at e34
        refine en_seq_reg rfl (by simp [und, List.replicate]; rfl) ?_
        refine en_seq_cond (t := true) (by simp [bV, hlt]) (fun _ => ?_) (fun h => by simp at h)
        refine en_seq_skip ?_
        refine en_seq_block ?_
        refine en_seq_reg rfl (by simp [hc]; rfl) ?_
        refine en_seq_reg rfl (by simp [h34, e34]; rfl) ?_
        refine en_seq_reg rfl (by simp; rfl) ?_
        refine en_cond (t := false) (by simp [bV]) (fun h => by simp at h) (fun _ => ?_)
        refine en_reg rfl (by simp [b5, b6]; rfl) ?_
        simp only [outOf, thenQ, if_true]
        refine en_reg rfl (by simp; rfl) ?_
        simp only [outOf, thenQ, if_true]
        refine ⟨k + 1, by omega, ?_, by omega⟩
        simp [H19, und, List.replicate, hw, zB, ht, oldV, ansV, silV, hf, intC]
    · have hk' : k = d.cl.length := by omega
      subst hk'
      rw [List.take_length]
      refine en_seq_reg rfl (by simp [und, List.replicate]; rfl) ?_
      refine en_seq_cond (t := false) (by simp [bV]) (fun h => by simp at h) (fun _ => ?_)
      refine en_seq_exit ?_
      simp only [outOf, thenQ, if_true]
      refine en_assoc ?_
      refine en_seq_reg rfl (by simp; rfl) ?_
      refine en_seq_cond (by simp; rfl) (fun h => ?_) (fun h => ?_)
      · refine en_assoc ?_
        refine en_seq_reg rfl (by simp; rfl) ?_
        refine en_seq_ret ?_
        simp at h
        simp [h, zeroDis, zeroH, disC, hC, by8, List.replicate]
      simp at h
      have hne : 0 < (ansV L d.cl).length := List.length_pos_iff.2 h
      obtain ⟨a0, ha0, hh0⟩ := at0 hne
      have e31 := F31_eq (ansV L d.cl)
      refine en_seq_skip ?_
      refine en_assoc ?_
      refine en_seq_reg rfl (by simp [h31, e31]; rfl) ?_
      refine en_seq_cond (by simp; rfl) (fun h => ?_) (fun h => ?_)
      · have hA : agreeV (ansV L d.cl) = true := by simpa using h
        have hn0 : ansV L d.cl ≠ [] := List.length_pos_iff.1 hne
        refine en_assoc ?_
        refine en_seq_reg rfl (by simp [ha0]; rfl) ?_
        refine en_seq_ret ?_
        simp [hA, hn0, hh0, disC]
      · have hA : agreeV (ansV L d.cl) = false := by simpa using h
        have hn0 : ansV L d.cl ≠ [] := List.length_pos_iff.1 hne
        refine en_seq_skip ?_
        refine en_seq_reg rfl (by simp; rfl) ?_
        refine en_ret ?_
        simp [hA, hn0, disC]
  · simp
  · omega
  · simp [H19, und, List.replicate, oldV, ansV, silV, zB]
end
end Go.Proofs.Ytlfnplkjbejekaa
