import Derived.Test.YtlfnplkjbejekaaW3
namespace Go.Proofs.Ytlfnplkjbejekaa
open Go.Ab
set_option maxRecDepth 100000
set_option linter.unusedSimpArgs false
set_option linter.unusedVariables false
section
variable {T : Tab}
def zeroH : Hs := ⟨List.replicate 32 0, rfl⟩
def zeroDis : Dis := ⟨0, 0, zeroH, []⟩
@[simp] theorem take_hC1 (h : Hs) (c : Cell) : (hC h ++ [c]).take 33 = hC h ++ [c] := List.take_of_length_le (by simp)
theorem claims_len {L : List Cl} (h : claimsV L = true) : L.length ≤ 64 := by
  unfold claimsV at h
  simp at h
  exact h.2
def beginV (lo : Int) (ag : Hs) (hi : Int) (L : List Cl) : Dis × Int :=
  if L.length = 0 then (zeroDis, 6) else if claimsV L then (if heightsV lo hi then (⟨lo, hi, ag, L⟩, 0) else (zeroDis, 5)) else (zeroDis, 6)
def FCl : List PV → Option PV
  | [p] => (match lsD p with | some L => if L.length ≤ 64 then some (lsP L) else none | none => none)
  | _ => none
theorem FCl_eq {L : List Cl} (h : L.length ≤ 64) : FCl [lsP L] = some (lsP L) := by simp only [FCl, lsD_lsP, h, if_true]
abbrev dP (d : Dis) : PV := .agg (disC d)
theorem w9 (lo : Int) (ag : Hs) (hi : Int) (L : List Cl) (h23 : T 23 = some F23) (h24 : T 24 = some F24) (h25 : T 25 = some FCl) :
    execFn tt T kp23 0 Try.f9 [iP lo, .agg (hC ag), iP hi, lsP L] = some (.tup [dP (beginV lo ag hi L).1, iP (beginV lo ag hi L).2]) := by
  refine fn_ends body9 ?_
  unfold c9
  rw [Try.ntmps9]
  have e23 := F23_eq L
  unfold beginV
  by_cases hl : L.length = 0
  · refine en_seq_reg rfl (by simp; rfl) ?_
    refine en_assoc ?_
    refine en_seq_reg rfl (by simp [hl]; rfl) ?_
    refine en_seq_cond (t := true) (by simp [bV]) (fun _ => ?_) (fun h => by simp at h)
    refine en_assoc ?_
    refine en_seq_reg rfl (by simp; rfl) ?_
    refine en_seq_ret ?_
    simp [hl, zeroDis, zeroH, disC, hC, by8, List.replicate]
  · cases hc : claimsV L
    · refine en_seq_reg rfl (by simp; rfl) ?_
      refine en_assoc ?_
      refine en_seq_reg rfl (by simp [hl, h23, e23, hc]; rfl) ?_
      refine en_seq_cond (t := true) (by simp [bV]) (fun _ => ?_) (fun h => by simp at h)
      refine en_assoc ?_
      refine en_seq_reg rfl (by simp; rfl) ?_
      refine en_seq_ret ?_
      simp [hl, zeroDis, zeroH, disC, hC, by8, List.replicate]
    · refine en_seq_reg rfl (by simp; rfl) ?_
      refine en_assoc ?_
      refine en_seq_reg rfl (by simp [hl, h23, e23, hc]; rfl) ?_
      refine en_seq_cond (t := false) (by simp [bV]) (fun h => by simp at h) (fun _ => ?_)
      refine en_seq_skip ?_
      refine en_assoc ?_
      refine en_seq_reg rfl (by simp [h24, F24]; rfl) ?_
      refine en_seq_cond (by simp; rfl) (fun h => ?_) (fun h => ?_)
      · refine en_assoc ?_
        refine en_seq_reg rfl (by simp; rfl) ?_
        refine en_seq_ret ?_
        simp at h
        simp [hl, h, zeroDis, zeroH, disC, hC, by8, List.replicate]
      · simp at h
        refine en_seq_skip ?_
        have e25 := FCl_eq (claims_len hc)
        refine en_seq_reg rfl (by simp [h25, e25]; rfl) ?_
        refine en_ret ?_
        simp [hl, h, disC]
theorem w10 (lo : Int) (ag : Hs) (hi : Int) (L : List Cl) (h23 : T 26 = some F23) (h24 : T 27 = some F24) (h25 : T 28 = some FCl) :
    execFn tt T kp23 0 Try.f10 [iP lo, .agg (hC ag), iP hi, lsP L] = some (.tup [dP (beginV lo ag hi L).1, iP (beginV lo ag hi L).2]) := by
  refine fn_ends body10 ?_
  unfold c10
  rw [Try.ntmps10]
  have e23 := F23_eq L
  unfold beginV
  by_cases hl : L.length = 0
  · refine en_seq_reg rfl (by simp; rfl) ?_
    refine en_assoc ?_
    refine en_seq_reg rfl (by simp [hl]; rfl) ?_
    refine en_seq_cond (t := true) (by simp [bV]) (fun _ => ?_) (fun h => by simp at h)
    refine en_assoc ?_
    refine en_seq_reg rfl (by simp; rfl) ?_
    refine en_seq_ret ?_
    simp [hl, zeroDis, zeroH, disC, hC, by8, List.replicate]
  · cases hc : claimsV L
    · refine en_seq_reg rfl (by simp; rfl) ?_
      refine en_assoc ?_
      refine en_seq_reg rfl (by simp [hl, h23, e23, hc]; rfl) ?_
      refine en_seq_cond (t := true) (by simp [bV]) (fun _ => ?_) (fun h => by simp at h)
      refine en_assoc ?_
      refine en_seq_reg rfl (by simp; rfl) ?_
      refine en_seq_ret ?_
      simp [hl, zeroDis, zeroH, disC, hC, by8, List.replicate]
    · refine en_seq_reg rfl (by simp; rfl) ?_
      refine en_assoc ?_
      refine en_seq_reg rfl (by simp [hl, h23, e23, hc]; rfl) ?_
      refine en_seq_cond (t := false) (by simp [bV]) (fun h => by simp at h) (fun _ => ?_)
      refine en_seq_skip ?_
      refine en_assoc ?_
      refine en_seq_reg rfl (by simp [h24, F24]; rfl) ?_
      refine en_seq_cond (by simp; rfl) (fun h => ?_) (fun h => ?_)
      · refine en_assoc ?_
        refine en_seq_reg rfl (by simp; rfl) ?_
        refine en_seq_ret ?_
        simp at h
        simp [hl, h, zeroDis, zeroH, disC, hC, by8, List.replicate]
      · simp at h
        refine en_seq_skip ?_
        have e25 := FCl_eq (claims_len hc)
        refine en_seq_reg rfl (by simp [h25, e25]; rfl) ?_
        refine en_ret ?_
        simp [hl, h, disC]
def kp34 : Keep := fun _ => ([0, 1, 6, 7, 8], 0)
def H34 (els : List (List Cell)) (p : Int) (n : Nat) (k : Nat) : ASt :=
  ⟨[.one (.slice .no els), iP p, .undef, .undef, .undef, .undef, .one (.slice .no els), iP n, iP k] ++ und 11, []⟩
/-- the place of the claim of a peer -/
def ofV (p : Int) : List Cl → Nat → Int
  | [], _ => -1
  | c :: L, k => if c.peer = p then (k : Int) else ofV p L (k + 1)
theorem w34 (L : List Cl) (p : Int) (hm : L.length ≤ 9223372036854775807) : execFn tt T kp34 (L.length + 1) Try.f34 [lsP L, iP p] = some (iP (ofV p L 0)) := by
  refine fn_ends body34 ?_
  unfold c34
  rw [Try.ntmps34]
  refine en_seq_reg rfl (by simp; rfl) ?_
  refine en_assoc ?_
  refine en_seq_reg rfl (by simp; rfl) ?_
  refine en_seq_block (en_loop (kq := ([0, 1, 6, 7, 8], 0)) rfl ?_)
  refine it_inv (H34 (L.map clC) p L.length) (fun k => k ≤ L.length ∧ ofV p L 0 = ofV p (L.drop k) k) (fun k => L.length - k) ?_ _ 0 _ ?_ ?_ ?_
  · rintro k ⟨hk, ha⟩
    unfold b34_1 H34
    by_cases hlt : k < L.length
    · have hc : L[k]? = some L[k] := by simp [hlt]
      have hd : L.drop k = L[k] :: L.drop (k + 1) := List.drop_eq_getElem_cons hlt
      generalize L[k] = c at hc hd
      rw [hd] at ha
      refine en_seq_reg rfl (by simp [und, List.replicate]; rfl) ?_
      refine en_seq_cond (t := true) (by simp [bV, hlt]) (fun _ => ?_) (fun h => by simp at h)
      refine en_seq_skip ?_
      refine en_seq_block ?_
      refine en_seq_reg rfl (by simp; rfl) ?_
      refine en_seq_reg rfl (by simp [hc]; rfl) ?_
      refine en_cond (by simp; rfl) (fun h => ?_) (fun h => ?_)
      · refine en_seq_reg rfl (by simp; rfl) ?_
        refine en_ret ?_
        simp at h
        simp [ha, ofV, h]
      · refine en_skip ?_
        simp only [outOf, thenQ, if_true]
        refine en_reg rfl (by simp; rfl) ?_
        simp only [outOf, thenQ, if_true]
        simp at h
        have hw := wrap_in (n := (k : Int) + 1) (by unfold In64; omega)
        refine ⟨k + 1, ⟨by omega, ?_⟩, ?_, by omega⟩
        · simp [ha, ofV, h]
        · simp [H34, hw, und, List.replicate]
    · have hk' : k = L.length := by omega
      subst hk'
      refine en_seq_reg rfl (by simp [und, List.replicate]; rfl) ?_
      refine en_seq_cond (t := false) (by simp [bV]) (fun h => by simp at h) (fun _ => ?_)
      refine en_seq_exit ?_
      simp only [outOf, thenQ, if_true]
      refine en_seq_reg rfl (by simp; rfl) ?_
      refine en_ret ?_
      simp [ha, ofV]
  · simp
  · simp
  · simp [H34, und, List.replicate]
def F34 : List PV → Option PV
  | [p, .one (.v (.int .i64 q))] => (match lsD p with | some L => some (iP (ofV q L 0)) | none => none)
  | _ => none
theorem F34_eq (L : List Cl) (q : Int) : F34 [lsP L, iP q] = some (iP (ofV q L 0)) := by simp only [F34, lsD_lsP]

def isP (l : List Int) : PV := .one (.slice .no (l.map fun n => [.v (.int .i64 n)]))
def isD : PV → Option (List Int)
  | .one (.slice .no els) => elsD (fun l => match l with | [.v (.int .i64 n)] => some n | _ => none) els
  | _ => none
theorem isD_isP (l : List Int) : isD (isP l) = some l := elsD_map (g := fun n => [.v (.int .i64 n)]) (fun _ => rfl) l
theorem isD_spec {p : PV} {l : List Int} (h : isD p = some l) : p = isP l := by
  unfold isD at h
  split at h
  · rw [elsD_spec (g := fun n => [.v (.int .i64 n)]) (fun l a hl => by split at hl <;> simp at hl; subst hl; rfl) h]; rfl
  · simp at h
def kp20 : Keep := fun _ => ([0, 1, 12, 13], 0)
def H20 (x y : List (List Cell)) (n : Nat) (k : Nat) : ASt :=
  ⟨[.one (.slice .no x), .one (.slice .no y)] ++ und 10 ++ [iP n, iP k] ++ und 12, []⟩
theorem w20 (x y : List Int) (hm : x.length ≤ 9223372036854775807) : execFn tt T kp20 (x.length + 1) Try.f20 [isP x, isP y] = some (bP (decide (x = y))) := by
  refine fn_ends body20 ?_
  unfold c20 isP
  rw [Try.ntmps20]
  refine en_seq_reg rfl (by simp; rfl) ?_
  refine en_assoc ?_
  refine en_seq_reg rfl (by simp; rfl) ?_
  refine en_seq_cond (by simp; rfl) (fun h => ?_) (fun h => ?_)
  · refine en_assoc ?_
    refine en_seq_reg rfl (by simp; rfl) ?_
    refine en_seq_ret ?_
    simp at h
    simp
    rintro rfl
    simp at h
  simp at h
  have hxy : x.length = y.length := by omega
  clear h
  refine en_seq_skip ?_
  refine en_assoc ?_
  refine en_seq_reg rfl (by simp; rfl) ?_
  refine en_seq_block (en_loop (kq := ([0, 1, 12, 13], 0)) rfl ?_)
  refine it_inv (H20 (x.map fun n => [.v (.int .i64 n)]) (y.map fun n => [.v (.int .i64 n)]) x.length) (fun k => k ≤ x.length ∧ x.take k = y.take k) (fun k => x.length - k) ?_ _ 0 _ ?_ ?_ ?_
  · rintro k ⟨hk, ha⟩
    unfold b20_1 H20
    by_cases hlt : k < x.length
    · have hc : x[k]? = some x[k] := by simp [hlt]
      have hc' : y[k]? = some (y[k]'(by omega)) := by simp [show k < y.length by omega]
      generalize x[k] = a at hc
      generalize y[k]'(by omega) = b at hc'
      refine en_seq_reg rfl (by simp [und, List.replicate]; rfl) ?_
      refine en_seq_cond (t := true) (by simp [bV, hlt]) (fun _ => ?_) (fun h => by simp at h)
      refine en_seq_skip ?_
      refine en_seq_block ?_
      refine en_seq_reg rfl (by simp; rfl) ?_
      refine en_seq_reg rfl (by simp [hc, hc']; rfl) ?_
      refine en_cond (by simp; rfl) (fun h => ?_) (fun h => ?_)
      · refine en_seq_reg rfl (by simp; rfl) ?_
        refine en_ret ?_
        simp at h
        simp
        rintro rfl
        rw [hc] at hc'
        simp at hc'
        exact h hc'
      · refine en_skip ?_
        simp only [outOf, thenQ, if_true]
        refine en_reg rfl (by simp; rfl) ?_
        simp only [outOf, thenQ, if_true]
        simp at h
        have hw := wrap_in (n := (k : Int) + 1) (by unfold In64; omega)
        refine ⟨k + 1, ⟨by omega, ?_⟩, ?_, by omega⟩
        · rw [List.take_add_one, List.take_add_one, hc, hc', ha, h]
        · simp [H20, hw, und, List.replicate]
    · have hk' : k = x.length := by omega
      subst hk'
      refine en_seq_reg rfl (by simp [und, List.replicate]; rfl) ?_
      refine en_seq_cond (t := false) (by simp [bV]) (fun h => by simp at h) (fun _ => ?_)
      refine en_seq_exit ?_
      simp only [outOf, thenQ, if_true]
      refine en_seq_reg rfl (by simp; rfl) ?_
      refine en_ret ?_
      rw [List.take_length, hxy, List.take_length] at ha
      simp [ha]
  · simp
  · simp
  · simp [H20, und, List.replicate]
def kp11 : Keep := fun _ => ([0, 1, 2, 3, 36, 37], 2)
def H11 (a b : Dis) (n : Nat) (k : Nat) : ASt :=
  ⟨[.agg (disC a), .agg (disC b), .ptr 0 0, .ptr 1 0] ++ und 32 ++ [iP n, iP k] ++ und 14, [⟨disC a, false⟩, ⟨disC b, false⟩]⟩
theorem w11 (a b : Dis) (hm : a.cl.length ≤ 9223372036854775807) : execFn tt T kp11 (a.cl.length + 1) Try.f11 [.agg (disC a), .agg (disC b)] = some (bP (decide (a = b))) := by
  refine fn_ends body11 ?_
  unfold c11
  rw [Try.ntmps11]
  by_cases h1 : a.lo = b.lo
  · by_cases h2 : a.hi = b.hi
    · by_cases h3 : a.ag = b.ag
      · by_cases h4 : a.cl.length = b.cl.length
        · refine en_seq_reg rfl (by simp; rfl) ?_
          refine en_assoc ?_
          refine en_seq_reg rfl (by simp [h1, h2, h3, h4]; rfl) ?_
          refine en_seq_cond (t := false) (by simp [bV]) (fun h => by simp at h) (fun _ => ?_)
          refine en_seq_skip ?_
          refine en_assoc ?_
          refine en_seq_reg rfl (by simp; rfl) ?_
          refine en_seq_block (en_loop (kq := ([0, 1, 2, 3, 36, 37], 2)) rfl ?_)
          refine it_inv (H11 a b a.cl.length) (fun k => k ≤ a.cl.length ∧ a.cl.take k = b.cl.take k) (fun k => a.cl.length - k) ?_ _ 0 _ ?_ ?_ ?_
          · rintro k ⟨hk, ha⟩
            unfold b11_1 H11
            by_cases hlt : k < a.cl.length
            · have hc : a.cl[k]? = some a.cl[k] := by simp [hlt]
              have hc' : b.cl[k]? = some (b.cl[k]'(by omega)) := by simp [show k < b.cl.length by omega]
              generalize a.cl[k] = x at hc
              generalize b.cl[k]'(by omega) = y at hc'
              refine en_seq_reg rfl (by simp [und, List.replicate]; rfl) ?_
              refine en_seq_cond (t := true) (by simp [bV, hlt]) (fun _ => ?_) (fun h => by simp at h)
              refine en_seq_skip ?_
              refine en_seq_block ?_
              refine en_seq_reg rfl (by simp; rfl) ?_
              refine en_seq_reg rfl (by simp [hc, hc']; rfl) ?_
              refine en_cond (by simp; rfl) (fun h => ?_) (fun h => ?_)
              · refine en_seq_reg rfl (by simp; rfl) ?_
                refine en_ret ?_
                simp at h
                simp
                rintro rfl
                rw [hc] at hc'
                simp at hc'
                exact h hc'
              · refine en_skip ?_
                simp only [outOf, thenQ, if_true]
                refine en_reg rfl (by simp; rfl) ?_
                simp only [outOf, thenQ, if_true]
                simp at h
                have hw := wrap_in (n := (k : Int) + 1) (by unfold In64; omega)
                refine ⟨k + 1, ⟨by omega, ?_⟩, ?_, by omega⟩
                · rw [List.take_add_one, List.take_add_one, hc, hc', ha, h]
                · simp [H11, hw, und, List.replicate]
            · have hk' : k = a.cl.length := by omega
              subst hk'
              refine en_seq_reg rfl (by simp [und, List.replicate]; rfl) ?_
              refine en_seq_cond (t := false) (by simp [bV]) (fun h => by simp at h) (fun _ => ?_)
              refine en_seq_exit ?_
              simp only [outOf, thenQ, if_true]
              refine en_seq_reg rfl (by simp; rfl) ?_
              refine en_ret ?_
              rw [List.take_length, h4, List.take_length] at ha
              cases a; cases b
              simp at h1 h2 h3 ha
              simp [h1, h2, h3, ha]
          · simp
          · simp
          · simp [H11, und, List.replicate]
        · have h4' : ¬ (a.cl.length : Int) = (b.cl.length : Int) := by omega
          refine en_seq_reg rfl (by simp; rfl) ?_
          refine en_assoc ?_
          refine en_seq_reg rfl (by simp [h1, h2, h3, h4']; rfl) ?_
          refine en_seq_cond (t := true) (by simp [bV]) (fun _ => ?_) (fun h => by simp at h)
          refine en_assoc ?_
          refine en_seq_reg rfl (by simp; rfl) ?_
          refine en_seq_ret ?_
          have : a ≠ b := by rintro rfl; exact h4 rfl
          simp [this]
      · refine en_seq_reg rfl (by simp; rfl) ?_
        refine en_assoc ?_
        refine en_seq_reg rfl (by simp [h1, h2, h3]; rfl) ?_
        refine en_seq_cond (t := true) (by simp [bV]) (fun _ => ?_) (fun h => by simp at h)
        refine en_assoc ?_
        refine en_seq_reg rfl (by simp; rfl) ?_
        refine en_seq_ret ?_
        have : a ≠ b := by rintro rfl; exact h3 rfl
        simp [this]
    · refine en_seq_reg rfl (by simp; rfl) ?_
      refine en_assoc ?_
      refine en_seq_reg rfl (by simp [h1, h2]; rfl) ?_
      refine en_seq_cond (t := true) (by simp [bV]) (fun _ => ?_) (fun h => by simp at h)
      refine en_assoc ?_
      refine en_seq_reg rfl (by simp; rfl) ?_
      refine en_seq_ret ?_
      have : a ≠ b := by rintro rfl; exact h2 rfl
      simp [this]
  · refine en_seq_reg rfl (by simp; rfl) ?_
    refine en_assoc ?_
    refine en_seq_reg rfl (by simp [h1]; rfl) ?_
    refine en_seq_cond (t := true) (by simp [bV]) (fun _ => ?_) (fun h => by simp at h)
    refine en_assoc ?_
    refine en_seq_reg rfl (by simp; rfl) ?_
    refine en_seq_ret ?_
    have : a ≠ b := by rintro rfl; exact h1 rfl
    simp [this]
end
end Go.Proofs.Ytlfnplkjbejekaa
