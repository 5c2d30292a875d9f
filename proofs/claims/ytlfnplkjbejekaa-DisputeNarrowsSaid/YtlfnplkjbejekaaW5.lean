import Derived.Test.YtlfnplkjbejekaaW4
namespace Go.Proofs.Ytlfnplkjbejekaa
open Go.Ab
set_option maxRecDepth 100000
set_option linter.unusedSimpArgs false
set_option linter.unusedVariables false
section
variable {T : Tab}
def zB : List Cell := .v (.int .i64 0) :: .v (.int .i64 0) :: (List.replicate 32 (.v (.int .u8 0)) ++ [.slice .nil []])
@[simp] theorem zB_len : zB.length = 35 := by simp [zB]
def intC (n : Int) : List Cell := [.v (.int .i64 n)]
def lftV (r : Hs) (L : List Cl) : List Cl := L.filter fun c => decide (c.hdr = r)
def liaV (r : Hs) (L : List Cl) : List Int := (L.filter fun c => !decide (c.hdr = r)).map (·.peer)
def settleV (d : Dis) (r : Hs) : Dis × List Int × Int :=
  if soundV d then (if 1 < IntKind.i64.wrap (d.hi - d.lo) then (zeroDis, [], 171) else if (lftV r d.cl).length = 0 then (zeroDis, [], 221) else ({ d with cl := lftV r d.cl }, liaV r d.cl, 0)) else (zeroDis, [], 6)
theorem sound_len {d : Dis} (h : soundV d = true) : d.cl.length ≤ 64 := by
  unfold soundV at h
  simp at h
  exact claims_len h.2.2
theorem take_snoc {α : Type} {L : List α} {k : Nat} {c : α} (h : L[k]? = some c) : L.take (k + 1) = L.take k ++ [c] := by rw [List.take_add_one, h]; rfl
theorem lft_len (r : Hs) (L : List Cl) (k : Nat) : (lftV r (L.take k)).length ≤ k := by
  have := List.length_filter_le (fun c : Cl => decide (c.hdr = r)) (L.take k)
  have := List.length_take_le k L
  unfold lftV; omega
theorem lia_len (r : Hs) (L : List Cl) (k : Nat) : (liaV r (L.take k)).length ≤ k := by
  have := List.length_filter_le (fun c : Cl => !decide (c.hdr = r)) (L.take k)
  have := List.length_take_le k L
  unfold liaV; simp only [List.length_map]; omega
theorem isP_eq (l : List Int) : isP l = .one (.slice .no (l.map intC)) := rfl
def kp21 : Keep := fun _ => ([2, 3, 4, 7, 8, 23, 24, 25], 3)
def H21 (d : Dis) (r : Hs) (k : Nat) : ASt :=
  ⟨und 2 ++ [.ptr 0 0, .ptr 1 0, .ptr 2 0] ++ und 2 ++ [.one (.slice (.tip 33) ((lftV r (d.cl.take k)).map clC)), .one (.slice (.tip 1) ((liaV r (d.cl.take k)).map intC))] ++ und 14 ++ [lsP d.cl, iP d.cl.length, iP k] ++ und 25,
   [⟨disC d, false⟩, ⟨hC r, false⟩, ⟨zB, false⟩]⟩
theorem w21 (d : Dis) (r : Hs) (h29 : T 29 = some F29) : execFn tt T kp21 65 Try.f21 [.agg (disC d), .agg (hC r)] = some (.tup [dP (settleV d r).1, isP (settleV d r).2.1, iP (settleV d r).2.2]) := by
  refine fn_ends body21 ?_
  unfold c21
  rw [Try.ntmps21]
  unfold settleV
  simp only [isP_eq]
  refine en_seq_reg rfl (by simp; rfl) ?_
  refine en_assoc ?_
  refine en_seq_reg rfl (by simp [h29]; rfl) ?_
  refine en_seq_cond (by simp; rfl) (fun h => ?_) (fun h => ?_)
  · refine en_assoc ?_
    refine en_seq_reg rfl (by simp; rfl) ?_
    refine en_seq_ret ?_
    simp at h
    simp [h, zeroDis, zeroH, disC, hC, by8, List.replicate]
  simp at h
  have hs := h
  have hl := sound_len h
  clear h
  refine en_seq_skip ?_
  refine en_assoc ?_
  refine en_seq_reg rfl (by simp; rfl) ?_
  refine en_seq_cond (by simp; rfl) (fun h => ?_) (fun h => ?_)
  · refine en_assoc ?_
    refine en_seq_reg rfl (by simp; rfl) ?_
    refine en_seq_ret ?_
    simp at h
    simp [h, hs, zeroDis, zeroH, disC, hC, by8, List.replicate]
  simp at h
  have hph : ¬ 1 < IntKind.i64.wrap (d.hi - d.lo) := by omega
  clear h
  simp only [hs, hph, if_true, if_false]
  refine en_seq_skip ?_
  refine en_seq_reg rfl (by simp; rfl) ?_
  refine en_seq_reg rfl (by simp; rfl) ?_
  refine en_assoc ?_
  refine en_seq_reg rfl (by simp; rfl) ?_
  refine en_seq_block (en_loop (kq := ([2, 3, 4, 7, 8, 23, 24, 25], 3)) rfl ?_)
  refine it_inv (H21 d r) (fun k => k ≤ d.cl.length) (fun k => d.cl.length - k) ?_ _ 0 _ ?_ ?_ ?_
  · intro k hk
    have g1 := lft_len r d.cl k
    have g2 := lia_len r d.cl k
    unfold b21_1 H21
    by_cases hlt : k < d.cl.length
    · have hc : d.cl[k]? = some d.cl[k] := by simp [hlt]
      generalize d.cl[k] = c at hc
      have ht := take_snoc hc
      have hw := wrap_in (n := (k : Int) + 1) (by unfold In64; omega)
      have b1 : ((lftV r (d.cl.take k)).length + 1) * 40 ≤ 140737488355328 := by omega
      have b2 : (lftV r (d.cl.take k)).length + 1 ≤ maxLen := by unfold maxLen; omega
      have b3 : ((liaV r (d.cl.take k)).length + 1) * 8 ≤ 140737488355328 := by omega
      have b4 : (liaV r (d.cl.take k)).length + 1 ≤ maxLen := by unfold maxLen; omega
      refine en_seq_reg rfl (by simp [und, List.replicate]; rfl) ?_
      refine en_seq_cond (t := true) (by simp [bV, hlt]) (fun _ => ?_) (fun h => by simp at h)
      refine en_seq_skip ?_
      refine en_seq_block ?_
      refine en_seq_reg rfl (by simp [hc]; rfl) ?_
      refine en_seq_reg rfl (by simp; rfl) ?_
      refine en_cond (by simp; rfl) (fun h => ?_) (fun h => ?_)
      · simp at h
        refine en_reg rfl (by simp [b1, b2]; rfl) ?_
        simp only [outOf, thenQ, if_true]
        refine en_reg rfl (by simp; rfl) ?_
        simp only [outOf, thenQ, if_true]
        refine ⟨k + 1, by omega, ?_, by omega⟩
        simp [H21, hw, und, List.replicate, ht, lftV, liaV, h, zB]
      · simp at h
        refine en_reg rfl (by simp [b3, b4]; rfl) ?_
        simp only [outOf, thenQ, if_true]
        refine en_reg rfl (by simp; rfl) ?_
        simp only [outOf, thenQ, if_true]
        refine ⟨k + 1, by omega, ?_, by omega⟩
        simp [H21, hw, und, List.replicate, ht, lftV, liaV, h, zB, intC]
    · have hk' : k = d.cl.length := by omega
      subst hk'
      rw [List.take_length]
      refine en_seq_reg rfl (by simp [und, List.replicate]; rfl) ?_
      refine en_seq_cond (t := false) (by simp [bV]) (fun h => by simp at h) (fun _ => ?_)
      refine en_seq_exit ?_
      simp only [outOf, thenQ, if_true]
      refine en_assoc ?_
      refine en_seq_reg rfl (by simp; rfl) ?_
      refine en_seq_cond (by simp; rfl) (fun h => ?_) (fun h => ?_)
      · refine en_assoc ?_
        refine en_seq_reg rfl (by simp; rfl) ?_
        refine en_seq_ret ?_
        simp at h
        simp [h, zeroDis, zeroH, disC, hC, by8, List.replicate]
      · simp at h
        refine en_seq_skip ?_
        refine en_seq_reg rfl (by simp; rfl) ?_
        refine en_seq_reg rfl (by simp; rfl) ?_
        refine en_ret ?_
        simp [h]
  · simp
  · omega
  · simp [H21, und, List.replicate, lftV, liaV, zB]
/-- a dispute whose claims are still being collected -/
def dB (d : Dis) (c : Cell) : List Cell := .v (.int .i64 d.lo) :: .v (.int .i64 d.hi) :: (hC d.ag ++ [c])
@[simp] theorem dB_len (d : Dis) (c : Cell) : (dB d c).length = 35 := by simp [dB]
@[simp] theorem dB_un (d : Dis) (c : Cell) : unCells (dB d c) = dB d c.un := by simp [dB]
@[simp] theorem dB_take (d : Dis) (c : Cell) : (dB d c).take 35 = dB d c := List.take_of_length_le (by simp)
@[simp] theorem dB_34 (d : Dis) (c : Cell) : (dB d c)[34]? = some c := by
  show (hC d.ag ++ _)[32]? = _
  rw [List.getElem?_append_right (by simp)]
  simp
@[simp] theorem dB_g34 (d : Dis) (c : Cell) (h : 34 < (dB d c).length) : (dB d c)[34] = c := by
  have := dB_34 d c
  rw [List.getElem?_eq_getElem h] at this
  exact Option.some.inj this
@[simp] theorem dB_put (d : Dis) (c c' : Cell) : putCells (dB d c) 34 [c'] = dB d c' := by
  unfold putCells dB
  simp
@[simp] theorem dB_set (d : Dis) (c c' : Cell) : (dB d c).set 34 c' = dB d c' := by
  show _ :: _ :: (hC d.ag ++ _).set 32 c' = _
  rw [List.set_append_right _ _ (by simp)]
  simp [dB]
@[simp] theorem disC_tip (d : Dis) (e : Nat) (els : List (List Cell)) : putCells (disC d) 34 [.slice (.tip e) els] = dB d (.slice (.tip e) els) := by
  unfold putCells disC dB
  simp
@[simp] theorem dB_disC (d : Dis) (L : List Cl) : dB d (.slice .no (L.map clC)) = disC { d with cl := L } := rfl
def kp22 : Keep := fun _ => ([2, 3, 4, 7, 8, 25, 26, 27], 4)
def H22 (d : Dis) (r : Hs) (k : Nat) : ASt :=
  ⟨und 2 ++ [.ptr 0 0, .ptr 1 0, .ptr 2 0] ++ und 2 ++ [.ptr 3 0, .one (.slice (.tip 1) ((liaV r (d.cl.take k)).map intC))] ++ und 16 ++ [lsP d.cl, iP d.cl.length, iP k] ++ und 26,
   [⟨disC d, false⟩, ⟨hC r, false⟩, ⟨zB, false⟩, ⟨dB d (.slice (.tip 33) ((lftV r (d.cl.take k)).map clC)), false⟩]⟩
theorem w22 (d : Dis) (r : Hs) (h29 : T 30 = some F29) : execFn tt T kp22 65 Try.f22 [.agg (disC d), .agg (hC r)] = some (.tup [dP (settleV d r).1, isP (settleV d r).2.1, iP (settleV d r).2.2]) := by
  refine fn_ends body22 ?_
  unfold c22
  rw [Try.ntmps22]
  unfold settleV
  simp only [isP_eq]
  refine en_seq_reg rfl (by simp; rfl) ?_
  refine en_assoc ?_
  refine en_seq_reg rfl (by simp [h29]; rfl) ?_
  refine en_seq_cond (by simp; rfl) (fun h => ?_) (fun h => ?_)
  · refine en_assoc ?_
    refine en_seq_reg rfl (by simp; rfl) ?_
    refine en_seq_ret ?_
    simp at h
    simp [h, zeroDis, zeroH, disC, hC, by8, List.replicate]
  simp at h
  have hs := h
  have hl := sound_len h
  clear h
  refine en_seq_skip ?_
  refine en_assoc ?_
  refine en_seq_reg rfl (by simp; rfl) ?_
  refine en_seq_cond (by simp; rfl) (fun h => ?_) (fun h => ?_)
  · refine en_assoc ?_
    refine en_seq_reg rfl (by simp; rfl) ?_
    refine en_seq_ret ?_
    simp at h
    simp [h, hs, zeroDis, zeroH, disC, hC, by8, List.replicate]
  simp at h
  have hph : ¬ 1 < IntKind.i64.wrap (d.hi - d.lo) := by omega
  clear h
  simp only [hs, hph, if_true, if_false]
  refine en_seq_skip ?_
  refine en_seq_reg rfl (by simp; rfl) ?_
  refine en_seq_reg rfl (by simp; rfl) ?_
  refine en_seq_reg rfl (by simp; rfl) ?_
  refine en_assoc ?_
  refine en_seq_reg rfl (by simp; rfl) ?_
  refine en_seq_block (en_loop (kq := ([2, 3, 4, 7, 8, 25, 26, 27], 4)) rfl ?_)
  refine it_inv (H22 d r) (fun k => k ≤ d.cl.length) (fun k => d.cl.length - k) ?_ _ 0 _ ?_ ?_ ?_
  · intro k hk
    have g1 := lft_len r d.cl k
    have g2 := lia_len r d.cl k
    unfold b22_1 H22
    by_cases hlt : k < d.cl.length
    · have hc : d.cl[k]? = some d.cl[k] := by simp [hlt]
      generalize d.cl[k] = c at hc
      have ht := take_snoc hc
      have hw := wrap_in (n := (k : Int) + 1) (by unfold In64; omega)
      have b1 : ((lftV r (d.cl.take k)).length + 1) * 40 ≤ 140737488355328 := by omega
      have b2 : (lftV r (d.cl.take k)).length + 1 ≤ maxLen := by unfold maxLen; omega
      have b3 : ((liaV r (d.cl.take k)).length + 1) * 8 ≤ 140737488355328 := by omega
      have b4 : (liaV r (d.cl.take k)).length + 1 ≤ maxLen := by unfold maxLen; omega
      refine en_seq_reg rfl (by simp [und, List.replicate]; rfl) ?_
      refine en_seq_cond (t := true) (by simp [bV, hlt]) (fun _ => ?_) (fun h => by simp at h)
      refine en_seq_skip ?_
      refine en_seq_block ?_
      refine en_seq_reg rfl (by simp [hc]; rfl) ?_
      refine en_seq_reg rfl (by simp; rfl) ?_
      refine en_cond (by simp; rfl) (fun h => ?_) (fun h => ?_)
      · simp at h
        refine en_reg rfl (by simp [b1, b2]; rfl) ?_
        simp only [outOf, thenQ, if_true]
        refine en_reg rfl (by simp; rfl) ?_
        simp only [outOf, thenQ, if_true]
        refine ⟨k + 1, by omega, ?_, by omega⟩
        simp [H22, hw, und, List.replicate, ht, lftV, liaV, h, zB]
        rfl
      · simp at h
        refine en_reg rfl (by simp [b3, b4]; rfl) ?_
        simp only [outOf, thenQ, if_true]
        refine en_reg rfl (by simp; rfl) ?_
        simp only [outOf, thenQ, if_true]
        refine ⟨k + 1, by omega, ?_, by omega⟩
        simp [H22, hw, und, List.replicate, ht, lftV, liaV, h, zB, intC]
    · have hk' : k = d.cl.length := by omega
      subst hk'
      rw [List.take_length]
      refine en_seq_reg rfl (by simp [und, List.replicate]; rfl) ?_
      refine en_seq_cond (t := false) (by simp [bV]) (fun h => by simp at h) (fun _ => ?_)
      refine en_seq_exit ?_
      simp only [outOf, thenQ, if_true]
      refine en_assoc ?_
      refine en_seq_reg rfl (by simp; rfl) ?_
      refine en_seq_cond (by simp; rfl) (fun h => ?_) (fun h => ?_)
      · refine en_assoc ?_
        refine en_seq_reg rfl (by simp; rfl) ?_
        refine en_seq_ret ?_
        simp at h
        simp [h, zeroDis, zeroH, disC, hC, by8, List.replicate]
      · simp at h
        refine en_seq_skip ?_
        refine en_seq_reg rfl (by simp; rfl) ?_
        refine en_ret ?_
        simp [h]
  · simp
  · omega
  · simp [H22, und, List.replicate, lftV, liaV, zB]
end
end Go.Proofs.Ytlfnplkjbejekaa
