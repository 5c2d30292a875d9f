import Derived.Test.YtlfnplkjbejekaaEv
namespace Go.Proofs.Ytlfnplkjbejekaa
open Go.Ab
set_option maxRecDepth 100000
set_option linter.unusedSimpArgs false
set_option linter.unusedVariables false

abbrev bP (b : Bool) : PV := .one (.v (.bool b))
abbrev iP (n : Int) : PV := .one (.v (.int .i64 n))
def In64 (n : Int) : Prop := -9223372036854775808 ≤ n ∧ n ≤ 9223372036854775807
theorem wrap_in {n : Int} (h : In64 n) : IntKind.i64.wrap n = n := IntWalk.i64_in _ (by unfold In64 at h; omega)

/-- claims with rising peers above b -/
def ascB : Int → List Cl → Bool
  | _, [] => true
  | b, c :: L => decide (b < c.peer) && ascB c.peer L
def claimsV (L : List Cl) : Bool := ascB (-1) L && decide (L.length ≤ 64)
def heightsV (lo hi : Int) : Bool := decide (0 ≤ lo) && (decide (lo < hi) && decide (hi ≤ 16777216))
def soundV (d : Dis) : Bool := heightsV d.lo d.hi && (decide (0 < d.cl.length) && claimsV d.cl)
def hd0 (L : List Cl) : Hs := match L with | [] => ⟨List.replicate 32 0, rfl⟩ | d :: _ => d.hdr
def agreeV (L : List Cl) : Bool := L.all fun c => decide (c.hdr = hd0 L)
def openV (d : Dis) : Bool := soundV d && !agreeV d.cl
def askV (d : Dis) : Int × Bool :=
  if soundV d then (if 1 < IntKind.i64.wrap (d.hi - d.lo) then (IntKind.i64.wrap (d.lo + IntKind.i64.wrap ((IntKind.i64.wrap (d.hi - d.lo)).tdiv 2)), false) else (d.hi, true)) else (0, false)

section
variable {T : Tab}
def kp23 : Keep := fun _ => ([0, 3, 6, 7, 8], 0)
def H23 (els : List (List Cell)) (n : Nat) (x : Nat × Int) : ASt :=
  ⟨[.one (.slice .no els), .undef, .undef, iP x.2, .undef, .undef, .one (.slice .no els), iP n, iP x.1, .undef, .undef, .undef, .undef, .undef, .undef, .undef, .undef, .undef, .undef, .undef, .undef, .undef], []⟩
theorem w23 (L : List Cl) (hm : L.length ≤ 9223372036854775807) : execFn tt T kp23 (L.length + 1) Try.f23 [lsP L] = some (bP (claimsV L)) := by
  refine fn_ends body23 ?_
  unfold c23
  rw [Try.ntmps23]
  refine en_seq_reg rfl (by simp; rfl) ?_
  refine en_seq_reg rfl (by simp; rfl) ?_
  refine en_assoc ?_
  refine en_seq_reg rfl (by simp; rfl) ?_
  refine en_seq_block (en_loop (kq := ([0, 3, 6, 7, 8], 0)) rfl ?_)
  refine it_inv (H23 (L.map clC) L.length) (fun x => x.1 ≤ L.length ∧ ascB (-1) L = ascB x.2 (L.drop x.1)) (fun x => L.length - x.1) ?_ _ (0, -1) _ ?_ ?_ ?_
  · rintro ⟨k, p⟩ ⟨hk, ha⟩
    simp only at hk ha
    unfold b23_1 H23
    by_cases hlt : k < L.length
    · have hc : L[k]? = some L[k] := by simp [hlt]
      have hd : L.drop k = L[k] :: L.drop (k + 1) := List.drop_eq_getElem_cons hlt
      generalize L[k] = c at hc hd
      rw [hd] at ha
      refine en_seq_reg rfl (by simp; rfl) ?_
      refine en_seq_cond (t := true) (by simp [bV, hlt]) (fun _ => ?_) (fun h => by simp at h)
      refine en_seq_skip ?_
      refine en_seq_block ?_
      refine en_seq_reg rfl (by simp [hc]; rfl) ?_
      refine en_assoc ?_
      refine en_seq_reg rfl (by simp; rfl) ?_
      refine en_seq_cond (by simp; rfl) (fun h => ?_) (fun h => ?_)
      · refine en_assoc ?_
        refine en_seq_reg rfl (by simp; rfl) ?_
        refine en_seq_ret ?_
        simp at h ⊢
        unfold claimsV
        rw [ha]
        simp [ascB]
        omega
      · refine en_seq_skip ?_
        refine en_reg rfl (by simp; rfl) ?_
        simp
        refine en_reg rfl (by simp; rfl) ?_
        simp
        have hw := wrap_in (n := (k : Int) + 1) (by unfold In64; omega)
        refine ⟨k + 1, c.peer, ⟨by omega, ?_⟩, ?_, by omega⟩
        · simp at h
          rw [ha]
          simp [ascB, h]
        · simp [H23, hw]
    · have hk' : k = L.length := by omega
      subst hk'
      refine en_seq_reg rfl (by simp; rfl) ?_
      refine en_seq_cond (t := false) (by simp [bV]) (fun h => by simp at h) (fun _ => ?_)
      refine en_seq_exit ?_
      simp
      refine en_seq_reg rfl (by simp; rfl) ?_
      refine en_ret ?_
      simp
      simp at ha
      unfold claimsV
      rw [ha]
      simp [ascB]
      omega
  · simp
  · simp
  · simp [H23]
theorem w24 (lo hi : Int) : execFn tt T kp23 0 Try.f24 [iP lo, iP hi] = some (bP (heightsV lo hi)) := by
  refine fn_ends body24 ?_
  unfold c24
  rw [Try.ntmps24]
  unfold heightsV
  by_cases h1 : 0 ≤ lo
  · by_cases h2 : lo < hi
    all_goals
      refine en_seq_reg rfl (by simp; rfl) ?_
      refine en_seq_reg rfl (by simp [h1, h2]; rfl) ?_
      refine en_ret ?_
      simp [h1, h2]
  · refine en_seq_reg rfl (by simp; rfl) ?_
    refine en_seq_reg rfl (by simp [h1]; rfl) ?_
    refine en_ret ?_
    simp [h1]
def F23 : List PV → Option PV
  | [p] => (match lsD p with | some L => some (bP (claimsV L)) | none => none)
  | _ => none
@[simp] theorem F23_eq (L : List Cl) : F23 [lsP L] = some (bP (claimsV L)) := by simp only [F23, lsD_lsP]
def F24 : List PV → Option PV
  | [.one (.v (.int .i64 lo)), .one (.v (.int .i64 hi))] => some (bP (heightsV lo hi))
  | _ => none
def disP (p : PV) : Option Dis := match p with | .agg cs => disD cs | _ => none
@[simp] theorem disP_eq (d : Dis) : disP (.agg (disC d)) = some d := disD_disC d
theorem disP_spec {p : PV} {d : Dis} (h : disP p = some d) : p = .agg (disC d) := by
  unfold disP at h
  split at h
  · rw [disD_spec h]
  · simp at h
def F29 : List PV → Option PV
  | [p] => (match disP p with | some d => some (bP (soundV d)) | none => none)
  | _ => none
@[simp] theorem F29_eq (d : Dis) : F29 [.agg (disC d)] = some (bP (soundV d)) := by simp [F29]
theorem w29 (d : Dis) (h23 : T 23 = some F23) (h24 : T 24 = some F24) : execFn tt T kp23 0 Try.f29 [.agg (disC d)] = some (bP (soundV d)) := by
  refine fn_ends body29 ?_
  unfold c29
  rw [Try.ntmps29]
  unfold soundV
  have e23 := F23_eq d.cl
  cases h1 : heightsV d.lo d.hi
  · refine en_seq_reg rfl (by simp [h23, h24, F24, e23]; rfl) ?_
    refine en_seq_reg rfl (by simp [h23, h24, F24, e23, h1]; rfl) ?_
    refine en_ret ?_
    simp
  · by_cases h2 : 0 < d.cl.length
    all_goals
      refine en_seq_reg rfl (by simp; rfl) ?_
      refine en_seq_reg rfl (by simp [h23, h24, F24, e23, h1, h2]; rfl) ?_
      refine en_ret ?_
      simp [h2]
end
end Go.Proofs.Ytlfnplkjbejekaa
