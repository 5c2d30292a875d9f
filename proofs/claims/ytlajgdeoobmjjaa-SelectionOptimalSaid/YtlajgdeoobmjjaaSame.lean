import Derived.Test.YtlajgdeoobmjjaaRBest
namespace Go.Proofs.Ytlajgdeoobmjjaa
open Go.RowKit

def sameB (p : List Int) (s : Int) (q : List Int) (u : Int) : Bool := decide (s = u ∧ p = q)

theorem take_eq_succ {p q : List Int} {k : Nat} (hp : k < p.length) (hq : k < q.length) (h : p.take k = q.take k) (he : p[k] = q[k]) : p.take (k + 1) = q.take (k + 1) := by
  rw [List.take_succ_eq_append_getElem hp, List.take_succ_eq_append_getElem hq, h, he]

set_option maxHeartbeats 1000000 in
theorem same_any (pA qA : Option Addr) (n m pc qc : Nat) (p q : List Int) (s u : Int) (w : World) (B : Nat) (hB : B ≤ w.heap.size) (hp : Rd w B pA (I64 p)) (hq : Rd w B qA (I64 q)) (hpl : p.length = n) (hql : q.length = m) (hn : n ≤ 1000000) (hm : m ≤ 1000000) :
    Calls Try.prog 12 #[.agg #[.slice pA n pc, .int .i64 s], .agg #[.slice qA m qc, .int .i64 u]] w fun e w' => e = .returned (.bool (sameB p s q u)) ∧ Below w.heap.size w w' := by
  have HP := Lib.hid hp; clear hp
  have HQ := Lib.hid hq; clear hq
  by_cases hsu : s = u
  · subst hsu
    have hd1 : (s != s) = false := by simp
    by_cases hnm : n = m
    · subst hnm
      have HPL := Lib.hid hpl; clear hpl
      have HQL := Lib.hid hql; clear hql
      have hd2 : ((n : Int) != (n : Int)) = false := by simp
      go_enter Try.func12, Try.ntmps12
      go_wp2
      go_loopw [5] (fun i wr => ∃ k : Nat, k ≤ n ∧ i = .int .i64 k ∧ Hid (p.take k = q.take k) ∧ ∃ d, wr = ((w.alloc (.cells #[.slice pA n pc, .int .i64 s] 29)).alloc (.cells #[.slice qA n qc, .int .i64 s] 29)).drewN d) (fun i _ => n - (intOf i).toNat)
      case atStart => exact ⟨0, Nat.zero_le _, rfl, by simp [Hid], 0, rfl⟩
      case round =>
        obtain ⟨k, hk, rfl, HE, d, rfl⟩ := hrel
        by_cases hlt : k < n
        · have hkp : k < p.length := by rw [HPL.out]; exact hlt
          have hkq : k < q.length := by rw [HQL.out]; exact hlt
          obtain ⟨ad, hA, hadb, hcell⟩ := ((HP.out.alloc hB (.cells #[.slice pA n pc, .int .i64 s] 29)).alloc (by simp; omega) (.cells #[.slice qA n qc, .int .i64 s] 29)).at_ (get_i64 hkp)
          obtain ⟨bd, hA2, hbdb, hcell2⟩ := ((HQ.out.alloc hB (.cells #[.slice pA n pc, .int .i64 s] 29)).alloc (by simp; omega) (.cells #[.slice qA n qc, .int .i64 s] 29)).at_ (get_i64 hkq)
          have HS := Lib.hid (take_eq_succ hkp hkq HE.out)
          have HN := Lib.hid (show p[k] ≠ q[k] → sameB p s q s = false by
            intro h
            simp only [sameB, decide_eq_false_iff_not]
            rintro ⟨_, rfl⟩
            exact h rfl)
          generalize p[k] = x at *
          generalize q[k] = y at *
          subst hA hA2
          by_cases hxy : x = y
          · have hd3 : (x != y) = false := by simp [hxy]
            have HXY := Lib.hid hxy; clear hxy
            go_wp2_with fail
            go_quiet (fail)
            go_wp2_with fail
            go_roundw
            case rel => exact ⟨k + 1, by omega, by go_num, HS.out HXY.out, _, rfl⟩
            case measure => simp [intOf]; omega
          · have hd3 : (x != y) = true := by simp [bne_iff_ne, hxy]
            have HF := Lib.hid (HN.out hxy); clear hxy
            go_wp2_with fail
            go_quiet (fail)
            go_wp2
            go_ret
            exact ⟨ret_bool HF.out.symm, below_drewN (below_drewN (((Below.refl _ _).alloc (Nat.le_refl _) _).alloc (by simp) _) _) _⟩
        · have HF := Lib.hid (show sameB p s q s = true by
            have h1 : p.take k = p := List.take_of_length_le (by rw [HPL.out]; omega)
            have h2 : q.take k = q := List.take_of_length_le (by rw [HQL.out]; omega)
            have := HE.out
            rw [h1, h2] at this
            simp [sameB, this])
          go_wp2
          go_ret
          exact ⟨ret_bool HF.out.symm, below_drewN (((Below.refl _ _).alloc (Nat.le_refl _) _).alloc (by simp) _) _⟩
    · have hd2 : ((n : Int) != (m : Int)) = true := by rw [bne_iff_ne]; omega
      have HF := Lib.hid (show sameB p s q s = false by
        simp only [sameB, decide_eq_false_iff_not]
        rintro ⟨_, rfl⟩
        exact hnm (hpl.symm.trans hql))
      clear hnm hpl hql
      go_enter Try.func12, Try.ntmps12
      go_wp2
      go_ret
      exact ⟨ret_bool HF.out.symm, ((Below.refl _ _).alloc (Nat.le_refl _) _).alloc (by simp) _⟩
  · have hd1 : (s != u) = true := by simp [bne_iff_ne, hsu]
    have HF := Lib.hid (show sameB p s q u = false by
      simp only [sameB, decide_eq_false_iff_not]
      rintro ⟨h, _⟩
      exact hsu h)
    clear hsu hpl hql
    go_enter Try.func12, Try.ntmps12
    go_wp2
    go_ret
    exact ⟨ret_bool HF.out.symm, ((Below.refl _ _).alloc (Nat.le_refl _) _).alloc (by simp) _⟩
end Go.Proofs.Ytlajgdeoobmjjaa
