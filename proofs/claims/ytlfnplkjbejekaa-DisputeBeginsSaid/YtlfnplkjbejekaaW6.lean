import Derived.Test.YtlfnplkjbejekaaW5
namespace Go.Proofs.Ytlfnplkjbejekaa
open Go.Ab
set_option maxRecDepth 100000
set_option linter.unusedSimpArgs false
set_option linter.unusedVariables false
def findP (L : List Cl) (p : Int) : Option Cl := L.find? fun c => decide (c.peer = p)
def oldV (L D : List Cl) : List Cl := D.filter fun c => (findP L c.peer).isSome
def ansV (L D : List Cl) : List Cl := D.filterMap fun c => findP L c.peer
def silV (L D : List Cl) : List Int := (D.filter fun c => !(findP L c.peer).isSome).map (·.peer)
def answerV (d : Dis) (L : List Cl) : Dis × List Int × Int :=
  if soundV d && claimsV L then
    (if (askV d).2 then (zeroDis, [], 171) else
     if (ansV L d.cl).length = 0 then (zeroDis, [], 221) else
     if agreeV (ansV L d.cl) then (⟨(askV d).1, d.hi, hd0 (ansV L d.cl), oldV L d.cl⟩, silV L d.cl, 0) else (⟨d.lo, (askV d).1, d.ag, ansV L d.cl⟩, silV L d.cl, 0))
  else (zeroDis, [], 6)
theorem asc_pw : ∀ {L : List Cl} {b : Int}, ascB b L = true → (∀ c ∈ L, b < c.peer) ∧ L.Pairwise fun x y => x.peer < y.peer
  | [], b, _ => ⟨by simp, .nil⟩
  | c :: L, b, h => by
    simp only [ascB, Bool.and_eq_true, decide_eq_true_eq] at h
    obtain ⟨h1, h2⟩ := asc_pw h.2
    refine ⟨fun x hx => ?_, List.pairwise_cons.2 ⟨h1, h2⟩⟩
    rcases List.mem_cons.1 hx with rfl | hx
    · exact h.1
    · have := h1 x hx; omega
theorem claims_pw {L : List Cl} (h : claimsV L = true) : L.Pairwise fun x y => x.peer < y.peer := by
  unfold claimsV at h
  simp at h
  exact (asc_pw h.1).2
theorem find_drop {L : List Cl} {p : Int} {i : Nat} (h : ∀ x ∈ L.take i, x.peer < p) : findP L p = findP (L.drop i) p := by
  unfold findP
  conv => lhs; rw [← List.take_append_drop i L, List.find?_append]
  have : (L.take i).find? (fun c => decide (c.peer = p)) = none := by
    rw [List.find?_eq_none]
    intro x hx
    have := h x hx
    simp
    omega
  rw [this]
  rfl
theorem find_yes {L : List Cl} {p : Int} {i : Nat} {c : Cl} (h : ∀ x ∈ L.take i, x.peer < p) (hc : L[i]? = some c) (he : c.peer = p) : findP L p = some c := by
  rw [find_drop h]
  have hlt : i < L.length := (List.getElem?_eq_some_iff.1 hc).1
  have hd : L.drop i = L[i] :: L.drop (i + 1) := List.drop_eq_getElem_cons hlt
  have : L[i] = c := by simpa [hlt] using hc
  rw [hd, this]
  simp [findP, he]
theorem find_no {L : List Cl} {p : Int} {i : Nat} {c : Cl} (hp : L.Pairwise fun x y => x.peer < y.peer) (h : ∀ x ∈ L.take i, x.peer < p) (hc : L[i]? = some c) (he : p < c.peer) : findP L p = none := by
  rw [find_drop h]
  have hlt : i < L.length := (List.getElem?_eq_some_iff.1 hc).1
  have hd : L.drop i = L[i] :: L.drop (i + 1) := List.drop_eq_getElem_cons hlt
  have hci : L[i] = c := by simpa [hlt] using hc
  have hpw : (L.drop i).Pairwise fun x y => x.peer < y.peer := hp.drop
  rw [hd, hci] at hpw ⊢
  rw [List.pairwise_cons] at hpw
  unfold findP
  rw [List.find?_eq_none]
  intro x hx
  rcases List.mem_cons.1 hx with rfl | hx
  · simp; omega
  · have := hpw.1 x hx; simp; omega
theorem find_end {L : List Cl} {p : Int} {i : Nat} (h : ∀ x ∈ L.take i, x.peer < p) (hi : L.length ≤ i) : findP L p = none := by
  rw [find_drop h, List.drop_of_length_le hi]
  rfl
theorem of_find : ∀ (L : List Cl) (p : Int) (k : Nat), match findP L p with | some c => ∃ j : Nat, ofV p L k = ((k + j : Nat) : Int) ∧ L[j]? = some c | none => ofV p L k = -1
  | [], p, k => by simp [findP, ofV]
  | c :: L, p, k => by
    have ih := of_find L p (k + 1)
    unfold findP at ih ⊢
    simp only [List.find?_cons, ofV]
    by_cases h : c.peer = p
    · simp only [h, decide_true, if_true]
      exact ⟨0, by simp, by simp⟩
    · simp only [h, decide_false, if_false]
      split
      · rename_i x hx
        simp only [hx] at ih
        obtain ⟨j, h1, h2⟩ := ih
        exact ⟨j + 1, by rw [h1]; congr 1; omega, by simpa using h2⟩
      · rename_i hx
        simpa only [hx] using ih
theorem old_len (L D : List Cl) (k : Nat) : (oldV L (D.take k)).length ≤ k := by
  have := List.length_filter_le (fun c : Cl => (findP L c.peer).isSome) (D.take k)
  have := List.length_take_le k D
  unfold oldV; omega
theorem ans_len (L D : List Cl) (k : Nat) : (ansV L (D.take k)).length ≤ k := by
  have := List.length_filterMap_le (fun c : Cl => findP L c.peer) (D.take k)
  have := List.length_take_le k D
  unfold ansV; omega
theorem sil_len (L D : List Cl) (k : Nat) : (silV L (D.take k)).length ≤ k := by
  have := List.length_filter_le (fun c : Cl => !(findP L c.peer).isSome) (D.take k)
  have := List.length_take_le k D
  unfold silV; simp only [List.length_map]; omega
section
variable {T : Tab}
theorem F12_tup (d : Dis) : F12 [dP d] = some (.tup [iP (askV d).1, bP (askV d).2]) := F12_eq d
def kp18 : Keep := fun id => if id = 12 then ([1, 2, 4, 7, 9, 10, 11, 12, 14, 32, 33, 34], 3) else ([1, 2, 4, 7, 9, 10, 11, 12, 32, 33, 34], 2)
def H18 (d : Dis) (L : List Cl) (hh : Int) (x : Nat × Nat) : ASt :=
  ⟨[.undef, lsP L, .ptr 0 0, .undef, .ptr 1 0, .undef, .undef, iP hh, .undef, .one (.slice (.tip 33) ((oldV L (d.cl.take x.1)).map clC)), .one (.slice (.tip 33) ((ansV L (d.cl.take x.1)).map clC)), .one (.slice (.tip 1) ((silV L (d.cl.take x.1)).map intC)), iP x.2] ++ und 19 ++ [lsP d.cl, iP d.cl.length, iP x.1] ++ und 71,
   [⟨disC d, false⟩, ⟨zB, false⟩]⟩
def G18 (d : Dis) (L : List Cl) (hh : Int) (k : Nat) (c : Cl) (i : Nat) : ASt :=
  ⟨[.undef, lsP L, .ptr 0 0, .undef, .ptr 1 0, .undef, .undef, iP hh, .undef, .one (.slice (.tip 33) ((oldV L (d.cl.take k)).map clC)), .one (.slice (.tip 33) ((ansV L (d.cl.take k)).map clC)), .one (.slice (.tip 1) ((silV L (d.cl.take k)).map intC)), iP i, .undef, .ptr 2 0] ++ und 17 ++ [lsP d.cl, iP d.cl.length, iP k] ++ und 71,
   [⟨disC d, false⟩, ⟨zB, false⟩, ⟨clC c, false⟩]⟩
set_option maxHeartbeats 2000000 in
theorem w18 (d : Dis) (L : List Cl) (h29 : T 29 = some F29) (h23 : T 23 = some F23) (h12 : T 12 = some F12) (h31 : T 31 = some F31) :
    execFn tt T kp18 70 Try.f18 [.agg (disC d), lsP L] = some (.tup [dP (answerV d L).1, isP (answerV d L).2.1, iP (answerV d L).2.2]) := by
  refine fn_ends body18 ?_
  unfold c18
  rw [Try.ntmps18]
  unfold answerV
  simp only [isP_eq]
  have e23 := F23_eq L
  cases hs : soundV d
  · refine en_seq_reg rfl (by simp; rfl) ?_
    refine en_assoc ?_
    refine en_seq_reg rfl (by simp [h29, h23, e23, hs]; rfl) ?_
    refine en_seq_cond (t := true) (by simp [bV]) (fun _ => ?_) (fun h => by simp at h)
    refine en_assoc ?_
    refine en_seq_reg rfl (by simp; rfl) ?_
    refine en_seq_ret ?_
    simp [zeroDis, zeroH, disC, hC, by8, List.replicate]
  cases hcl : claimsV L
  · refine en_seq_reg rfl (by simp; rfl) ?_
    refine en_assoc ?_
    refine en_seq_reg rfl (by simp [h29, h23, e23, hs, hcl]; rfl) ?_
    refine en_seq_cond (t := true) (by simp [bV]) (fun _ => ?_) (fun h => by simp at h)
    refine en_assoc ?_
    refine en_seq_reg rfl (by simp; rfl) ?_
    refine en_seq_ret ?_
    simp [zeroDis, zeroH, disC, hC, by8, List.replicate]
  have hl := sound_len hs
  have hL := claims_len hcl
  have hpL := claims_pw hcl
  have hpD : d.cl.Pairwise fun x y => x.peer < y.peer := claims_pw (by unfold soundV at hs; simp at hs; exact hs.2.2)
  simp only [Bool.and_self, if_true]
  refine en_seq_reg rfl (by simp; rfl) ?_
  refine en_assoc ?_
  refine en_seq_reg rfl (by simp [h29, h23, e23, hs, hcl]; rfl) ?_
  refine en_seq_cond (t := false) (by simp [bV]) (fun h => by simp at h) (fun _ => ?_)
  refine en_seq_skip ?_
  have e12 := F12_eq d
  refine en_seq_reg rfl (by simp [h12, e12]; rfl) ?_
  cases hlast : (askV d).2
  case true =>
    refine en_assoc ?_
    refine en_seq_reg rfl (by simp [hlast]; rfl) ?_
    refine en_seq_cond (t := true) (by simp [bV]) (fun _ => ?_) (fun h => by simp at h)
    refine en_assoc ?_
    refine en_seq_reg rfl (by simp; rfl) ?_
    refine en_seq_ret ?_
    simp [zeroDis, zeroH, disC, hC, by8, List.replicate]
  simp only [Bool.false_eq_true, if_false]
  generalize (askV d).1 = hh
  refine en_assoc ?_
  refine en_seq_reg rfl (by simp [hlast]; rfl) ?_
  refine en_seq_cond (t := false) (by simp [bV]) (fun h => by simp at h) (fun _ => ?_)
  refine en_seq_skip ?_
  refine en_seq_reg rfl (by simp; rfl) ?_
  refine en_seq_reg rfl (by simp; rfl) ?_
  refine en_seq_reg rfl (by simp; rfl) ?_
  refine en_assoc ?_
  refine en_seq_reg rfl (by simp; rfl) ?_
  refine en_seq_block (en_loop (kq := ([1, 2, 4, 7, 9, 10, 11, 12, 32, 33, 34], 2)) rfl ?_)
  refine it_inv (H18 d L hh) (fun x => x.1 ≤ d.cl.length ∧ x.2 ≤ L.length ∧ ∀ y ∈ L.take x.2, ∀ c ∈ d.cl.drop x.1, y.peer < c.peer) (fun x => d.cl.length - x.1) ?_ _ (0, 0) _ ?_ ?_ ?_
  · rintro ⟨k, i⟩ ⟨hk, hi, hlow⟩
    simp only at hk hi hlow
    have g1 := old_len L d.cl k
    have g2 := ans_len L d.cl k
    have g3 := sil_len L d.cl k
    unfold b18_1 H18
    by_cases hlt : k < d.cl.length
    · have hc : d.cl[k]? = some d.cl[k] := by simp [hlt]
      have hd : d.cl.drop k = d.cl[k] :: d.cl.drop (k + 1) := List.drop_eq_getElem_cons hlt
      generalize d.cl[k] = c at hc hd
      have ht := take_snoc hc
      have hlater : ∀ x ∈ d.cl.drop (k + 1), c.peer < x.peer := by
        have := hpD.drop (i := k)
        rw [hd, List.pairwise_cons] at this
        exact this.1
      have hlowc : ∀ y ∈ L.take i, y.peer < c.peer := fun y hy => hlow y hy c (by rw [hd]; simp)
      have hw := wrap_in (n := (k : Int) + 1) (by unfold In64; omega)
      have b1 : ((oldV L (d.cl.take k)).length + 1) * 40 ≤ 140737488355328 := by omega
      have b2 : (oldV L (d.cl.take k)).length + 1 ≤ maxLen := by unfold maxLen; omega
      have b3 : ((ansV L (d.cl.take k)).length + 1) * 40 ≤ 140737488355328 := by omega
      have b4 : (ansV L (d.cl.take k)).length + 1 ≤ maxLen := by unfold maxLen; omega
      have b5 : ((silV L (d.cl.take k)).length + 1) * 8 ≤ 140737488355328 := by omega
      have b6 : (silV L (d.cl.take k)).length + 1 ≤ maxLen := by unfold maxLen; omega
      clear hlow g1 g2 g3 hpD
      refine en_seq_reg rfl (by simp [und, List.replicate]; rfl) ?_
      refine en_seq_cond (t := true) (by simp [bV, hlt]) (fun _ => ?_) (fun h => by simp at h)
      refine en_seq_skip ?_
      refine en_seq_block ?_
      refine en_seq_reg rfl (by simp [hc]; rfl) ?_
      refine en_seq_block (en_loop (kq := ([1, 2, 4, 7, 9, 10, 11, 12, 14, 32, 33, 34], 3)) rfl ?_)
      refine it_inv (G18 d L hh k c) (fun j => j ≤ L.length ∧ ∀ y ∈ L.take j, y.peer < c.peer) (fun j => L.length - j) ?_ _ i _ ?_ ?_ ?_
      · rintro j ⟨hj, hlj⟩
        unfold b18_2 G18
        refine en_assoc ?_
        by_cases hjl : j < L.length
        · obtain ⟨x, hx'⟩ : ∃ x, L[j] = x := ⟨_, rfl⟩
          have hx : L[j]? = some x := by rw [← hx']; simp [hjl]
          have htx := take_snoc hx
          have hwj := wrap_in (n := (j : Int) + 1) (by unfold In64; omega)
          refine en_seq_reg rfl (by simp [und, List.replicate, hjl, hx, hx']; rfl) ?_
          refine en_seq_cond (by simp; rfl) (fun h => ?_) (fun h => ?_)
          · simp at h
            refine en_seq_skip ?_
            refine en_block ?_
            refine en_reg rfl (by simp; rfl) ?_
            simp only [outOf, thenQ, if_true]
            refine ⟨j + 1, ⟨by omega, ?_⟩, ?_, by omega⟩
            · intro y hy
              rw [htx] at hy
              rcases List.mem_append.1 hy with hy | hy
              · exact hlj y hy
              · simp at hy; subst hy; exact h
            · simp [G18, und, List.replicate, hwj, zB]
          · simp at h
            refine en_seq_exit ?_
            simp only [outOf, thenQ, if_true]
            refine en_seq_reg rfl (by simp [hjl, hx, hx']; rfl) ?_
            refine en_cond (by simp; rfl) (fun h => ?_) (fun h => ?_)
            · simp at h
              have hf := find_yes hlj hx h
              refine en_seq_reg rfl (by simp [b1, b2]; rfl) ?_
              refine en_reg rfl (by simp [b3, b4, hx, hx']; rfl) ?_
              simp only [outOf, thenQ, if_true]
              refine en_reg rfl (by simp; rfl) ?_
              simp only [outOf, thenQ, if_true]
              refine ⟨(k + 1, j), ⟨by simp; omega, hj, fun y hy z hz => by have := hlj y hy; have := hlater z hz; omega⟩, ?_, by simp; omega⟩
              simp [H18, und, List.replicate, hw, zB, ht, oldV, ansV, silV, hf]
            · simp at h
              have hf := find_no hpL hlj hx (by omega)
              refine en_reg rfl (by simp [b5, b6]; rfl) ?_
              simp only [outOf, thenQ, if_true]
              refine en_reg rfl (by simp; rfl) ?_
              simp only [outOf, thenQ, if_true]
              refine ⟨(k + 1, j), ⟨by simp; omega, hj, fun y hy z hz => by have := hlj y hy; have := hlater z hz; omega⟩, ?_, by simp; omega⟩
              simp [H18, und, List.replicate, hw, zB, ht, oldV, ansV, silV, hf, intC]
        · have hf := find_end hlj (by omega)
          refine en_seq_reg rfl (by simp [und, List.replicate, hjl]; rfl) ?_
          refine en_seq_cond (t := false) (by simp [bV]) (fun h => by simp at h) (fun _ => ?_)
          refine en_seq_exit ?_
          simp only [outOf, thenQ, if_true]
          refine en_seq_reg rfl (by simp [hjl]; rfl) ?_
          refine en_cond (t := false) (by simp [bV]) (fun h => by simp at h) (fun _ => ?_)
          refine en_reg rfl (by simp [b5, b6]; rfl) ?_
          simp only [outOf, thenQ, if_true]
          refine en_reg rfl (by simp; rfl) ?_
          simp only [outOf, thenQ, if_true]
          refine ⟨(k + 1, j), ⟨by simp; omega, hj, fun y hy z hz => by have := hlj y hy; have := hlater z hz; omega⟩, ?_, by simp; omega⟩
          simp [H18, und, List.replicate, hw, zB, ht, oldV, ansV, silV, hf, intC]
      · exact ⟨hi, hlowc⟩
      · omega
      · simp [G18, und, List.replicate, zB]
    · have hk' : k = d.cl.length := by omega
      subst hk'
      rw [List.take_length]
      refine en_seq_reg rfl (by simp [und, List.replicate]; rfl) ?_
      refine en_seq_cond (t := false) (by simp [bV]) (fun h => by simp at h) (fun _ => ?_)
      refine en_seq_exit ?_
      simp only [outOf, thenQ, if_true]
      refine en_assoc ?_
      refine en_seq_reg rfl (by simp; rfl) ?_
      refine en_seq_cond (by simp; rfl) (fun h => ?_) (fun h => ?_)
      · refine en_assoc ?_
        refine en_seq_reg rfl (by simp; rfl) ?_
        refine en_seq_ret ?_
        simp at h
        simp [h, zeroDis, zeroH, disC, hC, by8, List.replicate]
      simp at h
      have hne : 0 < (ansV L d.cl).length := List.length_pos_iff.2 h
      obtain ⟨a0, ha0, hh0⟩ := at0 hne
      have e31 := F31_eq (ansV L d.cl)
      refine en_seq_skip ?_
      refine en_assoc ?_
      refine en_seq_reg rfl (by simp [h31, e31]; rfl) ?_
      refine en_seq_cond (by simp; rfl) (fun h => ?_) (fun h => ?_)
      · have hA : agreeV (ansV L d.cl) = true := by simpa using h
        have hn0 : ansV L d.cl ≠ [] := List.length_pos_iff.1 hne
        refine en_seq_reg rfl (by simp [ha0]; rfl) ?_
        refine en_seq_reg rfl (by simp; rfl) ?_
        refine en_ret ?_
        simp [hA, hn0, hh0]
      · have hA : agreeV (ansV L d.cl) = false := by simpa using h
        have hn0 : ansV L d.cl ≠ [] := List.length_pos_iff.1 hne
        refine en_seq_reg rfl (by simp; rfl) ?_
        refine en_seq_reg rfl (by simp; rfl) ?_
        refine en_ret ?_
        simp [hA, hn0]
  · simp
  · simp; omega
  · simp [H18, und, List.replicate, oldV, ansV, silV, zB]
end
end Go.Proofs.Ytlfnplkjbejekaa
