import Derived.Test.YtlfnplkjbejekaaW1
namespace Go.Proofs.Ytlfnplkjbejekaa
open Go.Ab
set_option maxRecDepth 100000
set_option linter.unusedSimpArgs false
set_option linter.unusedVariables false
section
variable {T : Tab}
def und (n : Nat) : List PV := List.replicate n .undef
theorem at0 {L : List Cl} {k : Nat} (h : k < L.length) : ∃ d, L[0]? = some d ∧ d.hdr = hd0 L := by
  cases L with
  | nil => simp at h
  | cons d L => exact ⟨d, rfl, rfl⟩
theorem all_drop {L : List Cl} {k : Nat} {c : Cl} {f : Cl → Bool} (hd : L.drop k = c :: L.drop (k + 1)) : (L.drop k).all f = (f c && (L.drop (k + 1)).all f) := by rw [hd]; rfl

def kp31 : Keep := fun _ => ([0, 5, 6, 7], 0)
def H31 (els : List (List Cell)) (n : Nat) (k : Nat) : ASt :=
  ⟨[.one (.slice .no els), .undef, .undef, .undef, .undef, .one (.slice .no els), iP n, iP k, .undef, .undef, .undef, .undef, .undef, .undef, .undef, .undef, .undef, .undef, .undef], []⟩
theorem w31 (L : List Cl) (hm : L.length ≤ 9223372036854775807) : execFn tt T kp31 (L.length + 1) Try.f31 [lsP L] = some (bP (agreeV L)) := by
  refine fn_ends body31 ?_
  unfold c31
  rw [Try.ntmps31]
  refine en_seq_reg rfl (by simp; rfl) ?_
  refine en_assoc ?_
  refine en_seq_reg rfl (by simp; rfl) ?_
  refine en_seq_block (en_loop (kq := ([0, 5, 6, 7], 0)) rfl ?_)
  refine it_inv (H31 (L.map clC) L.length) (fun k => k ≤ L.length ∧ agreeV L = (L.drop k).all fun c => decide (c.hdr = hd0 L)) (fun k => L.length - k) ?_ _ 0 _ ?_ ?_ ?_
  · rintro k ⟨hk, ha⟩
    unfold b31_1 H31
    by_cases hlt : k < L.length
    · have hc : L[k]? = some L[k] := by simp [hlt]
      have hd : L.drop k = L[k] :: L.drop (k + 1) := List.drop_eq_getElem_cons hlt
      obtain ⟨d, h0, hd0⟩ := at0 hlt
      generalize L[k] = c at hc hd
      rw [all_drop hd] at ha
      refine en_seq_reg rfl (by simp; rfl) ?_
      refine en_seq_cond (t := true) (by simp [bV, hlt]) (fun _ => ?_) (fun h => by simp at h)
      refine en_seq_skip ?_
      refine en_seq_block ?_
      refine en_seq_reg rfl (by simp [hc]; rfl) ?_
      refine en_seq_reg rfl (by simp [h0]; rfl) ?_
      refine en_cond (by simp; rfl) (fun h => ?_) (fun h => ?_)
      · refine en_seq_reg rfl (by simp; rfl) ?_
        refine en_ret ?_
        simp at h ⊢
        rw [ha, hd0] at *
        simp [h]
      · refine en_skip ?_
        simp
        refine en_reg rfl (by simp; rfl) ?_
        simp
        have hw := wrap_in (n := (k : Int) + 1) (by unfold In64; omega)
        refine ⟨k + 1, ⟨by omega, ?_⟩, ?_, by omega⟩
        · simp at h
          rw [ha, ← hd0]
          simp [h]
        · simp [H31, hw]
    · have hk' : k = L.length := by omega
      subst hk'
      refine en_seq_reg rfl (by simp; rfl) ?_
      refine en_seq_cond (t := false) (by simp [bV]) (fun h => by simp at h) (fun _ => ?_)
      refine en_seq_exit ?_
      simp
      refine en_seq_reg rfl (by simp; rfl) ?_
      refine en_ret ?_
      simp
      rw [ha]
      simp
  · simp [agreeV]
  · simp
  · simp [H31]
def kp32 : Keep := fun _ => ([0, 4, 5, 6], 0)
def H32 (els : List (List Cell)) (n : Nat) (k : Nat) : ASt :=
  ⟨[.one (.slice .no els), .undef, .undef, .undef, .one (.slice .no els), iP n, iP k, .undef, .undef, .undef, .undef, .undef, .undef, .undef, .undef, .undef, .undef, .undef, .undef, .undef], []⟩
theorem w32 (L : List Cl) (hm : L.length ≤ 9223372036854775807) : execFn tt T kp32 (L.length + 1) Try.f32 [lsP L] = some (bP (agreeV L)) := by
  refine fn_ends body32 ?_
  unfold c32
  rw [Try.ntmps32]
  refine en_seq_reg rfl (by simp; rfl) ?_
  refine en_assoc ?_
  refine en_seq_reg rfl (by simp; rfl) ?_
  refine en_seq_block (en_loop (kq := ([0, 4, 5, 6], 0)) rfl ?_)
  refine it_inv (H32 (L.map clC) L.length) (fun k => k ≤ L.length ∧ agreeV L = (L.drop k).all fun c => decide (c.hdr = hd0 L)) (fun k => L.length - k) ?_ _ 0 _ ?_ ?_ ?_
  · rintro k ⟨hk, ha⟩
    unfold b32_1 H32
    by_cases hlt : k < L.length
    · have hc : L[k]? = some L[k] := by simp [hlt]
      have hd : L.drop k = L[k] :: L.drop (k + 1) := List.drop_eq_getElem_cons hlt
      obtain ⟨d, h0, hd0⟩ := at0 hlt
      generalize L[k] = c at hc hd
      rw [all_drop hd] at ha
      refine en_seq_reg rfl (by simp; rfl) ?_
      refine en_seq_cond (t := true) (by simp [bV, hlt]) (fun _ => ?_) (fun h => by simp at h)
      refine en_seq_skip ?_
      refine en_seq_block ?_
      refine en_seq_reg rfl (by simp; rfl) ?_
      refine en_seq_reg rfl (by simp [h0, hc]; rfl) ?_
      refine en_cond (by simp; rfl) (fun h => ?_) (fun h => ?_)
      · refine en_seq_reg rfl (by simp; rfl) ?_
        refine en_ret ?_
        simp at h ⊢
        rw [ha, hd0] at *
        simp [h]
      · refine en_skip ?_
        simp
        refine en_reg rfl (by simp; rfl) ?_
        simp
        have hw := wrap_in (n := (k : Int) + 1) (by unfold In64; omega)
        refine ⟨k + 1, ⟨by omega, ?_⟩, ?_, by omega⟩
        · simp at h
          rw [ha, ← hd0]
          simp [h]
        · simp [H32, hw]
    · have hk' : k = L.length := by omega
      subst hk'
      refine en_seq_reg rfl (by simp; rfl) ?_
      refine en_seq_cond (t := false) (by simp [bV]) (fun h => by simp at h) (fun _ => ?_)
      refine en_seq_exit ?_
      simp
      refine en_seq_reg rfl (by simp; rfl) ?_
      refine en_ret ?_
      simp
      rw [ha]
      simp
  · simp [agreeV]
  · simp
  · simp [H32]
def F31 : List PV → Option PV
  | [p] => (match lsD p with | some L => some (bP (agreeV L)) | none => none)
  | _ => none
@[simp] theorem F31_eq (L : List Cl) : F31 [lsP L] = some (bP (agreeV L)) := by simp only [F31, lsD_lsP]
def F14 : List PV → Option PV
  | [p] => (match disP p with | some d => some (bP (openV d)) | none => none)
  | _ => none
def F12 : List PV → Option PV
  | [p] => (match disP p with | some d => some (.tup [iP (askV d).1, bP (askV d).2]) | none => none)
  | _ => none
@[simp] theorem F14_eq (d : Dis) : F14 [.agg (disC d)] = some (bP (openV d)) := by simp [F14]
@[simp] theorem F12_eq (d : Dis) : F12 [.agg (disC d)] = some (.tup [iP (askV d).1, bP (askV d).2]) := by simp [F12]
theorem w14 (d : Dis) (h29 : T 29 = some F29) (h31 : T 31 = some F31) : execFn tt T kp23 0 Try.f14 [.agg (disC d)] = some (bP (openV d)) := by
  refine fn_ends body14 ?_
  unfold c14
  rw [Try.ntmps14]
  have e31 := F31_eq d.cl
  unfold openV
  cases h1 : soundV d
  all_goals
    refine en_seq_reg rfl (by simp; rfl) ?_
    refine en_seq_reg rfl (by simp [h29, h31, e31, h1]; rfl) ?_
    refine en_ret ?_
    simp
theorem w15 (d : Dis) (h29 : T 30 = some F29) (h31 : T 32 = some F31) : execFn tt T kp23 0 Try.f15 [.agg (disC d)] = some (bP (openV d)) := by
  refine fn_ends body15 ?_
  unfold c15
  rw [Try.ntmps15]
  have e31 := F31_eq d.cl
  unfold openV
  cases h1 : soundV d
  all_goals
    refine en_seq_reg rfl (by simp; rfl) ?_
    refine en_seq_reg rfl (by simp [h29, h31, e31, h1]; rfl) ?_
    refine en_ret ?_
    simp
theorem w12 (d : Dis) (h29 : T 29 = some F29) : execFn tt T kp23 0 Try.f12 [.agg (disC d)] = some (.tup [iP (askV d).1, bP (askV d).2]) := by
  refine fn_ends body12 ?_
  unfold c12
  rw [Try.ntmps12]
  unfold askV
  refine en_seq_reg rfl (by simp; rfl) ?_
  refine en_assoc ?_
  refine en_seq_reg rfl (by simp [h29]; rfl) ?_
  refine en_seq_cond (by simp; rfl) (fun h => ?_) (fun h => ?_)
  · refine en_assoc ?_
    refine en_seq_reg rfl (by simp; rfl) ?_
    refine en_seq_ret ?_
    simp at h
    simp [h]
  · simp at h
    refine en_seq_skip ?_
    refine en_assoc ?_
    refine en_seq_reg rfl (by simp; rfl) ?_
    refine en_seq_cond (by simp; rfl) (fun h => ?_) (fun h => ?_)
    · refine en_assoc ?_
      refine en_seq_reg rfl (by simp; rfl) ?_
      refine en_seq_ret ?_
      simp at h
      simp [*]
    · simp at h
      have h' : ¬ 1 < IntKind.i64.wrap (d.hi - d.lo) := by omega
      refine en_seq_skip ?_
      refine en_seq_reg rfl (by simp; rfl) ?_
      refine en_ret ?_
      simp [*]
theorem w13 (d : Dis) (h29 : T 30 = some F29) : execFn tt T kp23 0 Try.f13 [.agg (disC d)] = some (.tup [iP (askV d).1, bP (askV d).2]) := by
  refine fn_ends body13 ?_
  unfold c13
  rw [Try.ntmps13]
  unfold askV
  refine en_seq_reg rfl (by simp; rfl) ?_
  refine en_seq_block ?_
  refine en_seq_reg rfl (by simp [h29]; rfl) ?_
  refine en_cond (by simp; rfl) (fun h => ?_) (fun h => ?_)
  · refine en_seq_reg rfl (by simp; rfl) ?_
    refine en_ret ?_
    simp at h
    simp [h]
  · simp at h
    refine en_seq_reg rfl (by simp; rfl) ?_
    refine en_cond (by simp; rfl) (fun h => ?_) (fun h => ?_)
    · refine en_seq_reg rfl (by simp; rfl) ?_
      refine en_ret ?_
      simp at h
      simp [*]
    · simp at h
      have h' : ¬ 1 < IntKind.i64.wrap (d.hi - d.lo) := by omega
      refine en_skip ?_
      simp
      refine en_seq_reg rfl (by simp; rfl) ?_
      refine en_ret ?_
      simp [*]
end
end Go.Proofs.Ytlfnplkjbejekaa
