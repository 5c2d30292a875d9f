import Derived.Test.YtlajgdeoobmjjaaPlain4
import Derived.Test.YtlajgdeoobmjjaaLeast
import Derived.Test.YtlajgdeoobmjjaaLawLargest
import Derived.Test.YtlajgdeoobmjjaaLawChecks
namespace Go.Proofs.Ytlajgdeoobmjjaa
open Go.RowKit
set_option linter.unusedVariables false

theorem made_vals (ls : List Int) (k : Nat) (hk : k ≤ 16) : Vals (madeVals ls k) := by
  refine ⟨by rw [madeVals_len]; exact hk, fun z hz => ?_⟩
  unfold madeVals at hz
  obtain ⟨j, _, rfl⟩ := List.mem_map.1 hz
  have := nextV_bd (ls.tail.drop j) 30 (by omega)
  unfold Good
  omega
theorem made_t (ls : List Int) (n : Int) : Good (madeT ls n) := by
  have := nextV_bd (ls.tail.drop (madeK ls n)) 60 (by omega)
  unfold madeT Good
  omega

/-- the least of a bound and the values at the first k places -/
def smallV (zs ps : List Int) : Nat → Int
  | 0 => 2100000000000000
  | k + 1 => min (smallV zs ps k) (zs.getD (ps.getD k 0).toNat 0)
theorem small_ge {zs ps : List Int} {g : Int} (hg : g ≤ 2100000000000000) (h : ∀ p ∈ ps, g ≤ zs.getD p.toNat 0) : ∀ k, k ≤ ps.length → g ≤ smallV zs ps k := by
  intro k
  induction k with
  | zero => intro _; exact hg
  | succ k ih =>
    intro hk
    have h1 := ih (by omega)
    have h2 := h (ps.getD k 0) (by simp [List.getD, List.getElem?_eq_getElem (show k < ps.length by omega)])
    rw [smallV]
    omega

theorem small_le (zs ps : List Int) (k : Nat) : smallV zs ps k ≤ 2100000000000000 := by
  induction k with
  | zero => exact Int.le_refl _
  | succ k ih => rw [smallV]; omega
theorem getD_nn {zs : List Int} (hv : Vals zs) (j : Nat) : 0 ≤ zs.getD j 0 := by
  by_cases h : j < zs.length
  · exact Int.le_trans (by omega) (getD_good hv.2 h).1
  · rw [List.getD, List.getElem?_eq_none (by omega)]; exact Int.le_refl _
theorem small_lo {zs ps : List Int} (hv : Vals zs) (k : Nat) : 0 ≤ smallV zs ps k := by
  induction k with
  | zero => unfold smallV; omega
  | succ k ih => rw [smallV]; have := getD_nn hv (ps.getD k 0).toNat; omega

set_option maxRecDepth 100000 in
set_option maxHeartbeats 2000000 in
theorem selectionOptimal_any (A0 : Option Addr) (n0 c0 : Nat) (ls : List Int) (w : World) (hr0 : Rd w w.heap.size A0 (I64 ls)) (hl0 : ls.length = n0) (hm0 : n0 ≤ maxLen) :
    Calls Try.prog 7 #[.slice A0 n0 c0] w fun e w' => e = .returned (.bool true) ∧ Below w.heap.size w w' := by
  have HR0 := Lib.hid hr0; clear hr0
  have HL0 := Lib.hid hl0; clear hl0
  go_enter Try.func7, Try.ntmps7
  go_wp2_with fail
  refine (sane_any w).mono ?_
  rintro e w1 ⟨rfl, hb1⟩
  have hz1 := hb1.size
  go_wp2_with fail
  refine (made_any A0 n0 c0 ls 8 w1 ((HR0.out.below hb1 (Nat.le_refl _)).more hz1) HL0.out hm0 (by omega) (by omega)).mono ?_
  rintro e w2 ⟨v, rfl, hv, hb2⟩
  have hz2 := hb2.size
  have hk := (nextV_bd ls (8 + 1) (by omega))
  obtain ⟨vA, vc, rfl, hvc⟩ := slice_of_own hv
  have HV := Lib.hid (Rd.of_own hv)
  have HVL := Lib.hid (madeVals_len ls (madeK ls 8))
  have hkk : madeK ls 8 ≤ 8 := by unfold madeK; omega
  have HVS := Lib.hid (made_vals ls (madeK ls 8) (by omega))
  have HTG := Lib.hid (made_t ls 8)
  have HB2 := Lib.hid (hb1.trans (hb2.mono (by omega)))
  generalize madeT ls 8 = t1 at *
  generalize madeVals ls (madeK ls 8) = vs at *
  generalize madeK ls 8 = vn at *
  clear hv hb1 hb2 hk
  have ht1 := HTG.out
  unfold Good at ht1
  go_wp2_with fail
  refine (best_any vA vn vc vs t1 w2 HV.out HVL.out hvc (by unfold maxLen; omega)).mono ?_
  rintro e w3 ⟨pv, tv, rfl, hpv, htv, hb3⟩
  have hz3 := hb3.size
  obtain ⟨aA, ac, rfl, _⟩ := slice_of_own hpv
  obtain ⟨tA, tc, rfl, htc⟩ := slice_of_own htv
  have HP3 := Lib.hid (Rd.of_own hpv)
  have HT3 := Lib.hid (Rd.of_own htv)
  have HV3 := Lib.hid (HV.out.below hb3 (Nat.le_refl _))
  have HB3 := Lib.hid (HB2.out.trans (hb3.mono (by omega)))
  clear hpv htv hb3
  go_wp2_with fail
  refine (largest_any vA vn vc vs t1 _ ((HV3.out.alloc (by omega) _).more (by simp; omega)) HVL.out (by unfold maxLen; omega)).mono ?_
  rintro e w4 ⟨pv, rfl, hpv, hb4⟩
  have hz4 : w3.heap.size + 1 ≤ w4.heap.size := by have := hb4.size; simpa using this
  have hb34 : Below w3.heap.size w3 w4 := ((Below.refl _ w3).alloc (Nat.le_refl _) _).trans (hb4.mono (by simp))
  have HS4 := Lib.hid (show Blk w4 w3.heap.size 29 #[.slice aA (bestV vs t1).places.length ac, .int .i64 (bestV vs t1).sum] from (Blk.new w3 29 _).below hb4 (by simp))
  obtain ⟨bA, bc, rfl, _⟩ := slice_of_own hpv
  have HP4 := Lib.hid (HP3.out.below hb34 (Nat.le_refl _))
  have HT4 := Lib.hid (HT3.out.below hb34 (Nat.le_refl _))
  have HV4 := Lib.hid (HV3.out.below hb34 (by omega))
  have HX5 := Lib.hid (selbox_new hpv)
  have HB4 := Lib.hid (HB3.out.trans (hb34.mono (by omega)))
  clear hpv hb4 hb34
  have hbe := best_len2 vs t1
  have hle := larg_len vs t1
  go_wp2_with fail
  refine (lleast_any vA vn vc vs t1 _ w2.heap.size (HV4.out.alloc (by omega) _) HVL.out HVS.out).mono ?_
  rintro e w5 ⟨rfl, rfl⟩
  by_cases hf : vs.sum < t1
  · have hlb : lbest vs t1 (2 ^ vn) = -1 := by have := lbest_none (pos_of_vals HVS.out) (by omega) hf; rw [HVL.out] at this; exact this
    have hc := (checkV_ok vs t1).2 ⟨HVS.out, HTG.out⟩
    have hb : (bestV vs t1).err = 320 := by simp [bestV, hc, hf, failR]
    have hl : (largV vs t1).err = 320 := by simp [largV, hc, hf]
    rw [hlb, hb, hl]
    clear hlb hb hl hc hf
    go_wp2
    go_ret
    exact ⟨rfl, HB4.out.alloc (by omega) _⟩
  · obtain ⟨e1, e2⟩ := best_checked HVS.out HTG.out hf (by rw [HVL.out]; exact hkk)
    obtain ⟨g1, g2, g3, g4, ⟨g, g5, g6, g7⟩, g8⟩ := larg_facts HVS.out HTG.out hf
    have hsl := check_least e2
    rw [HVL.out] at hsl
    have HS1 := Lib.hid (fun W (hb : Below (w4.heap.size + 1) (w4.alloc (.cells #[.slice bA (largV vs t1).places.length bc, .int .i64 (largV vs t1).sum] 29)) W) => scheck_any vA aA tA vn vc _ ac _ tc vs (bestV vs t1).places (bestV vs t1).trace t1 (bestV vs t1).sum W w4.heap.size (by have := hb.size; simp at this; omega) (((HV4.out.alloc (by omega) _).below hb (by omega)).more (by omega)) (((HP4.out.alloc (by omega) _).below hb (by omega)).more (by omega)) (((HT4.out.alloc (by omega) _).below hb (by omega)).more (by omega)) HVL.out hvc (by unfold maxLen; omega) rfl (by unfold maxLen; omega) rfl htc)
    rw [e2] at HS1
    have hlow : t1 ≤ (bestV vs t1).sum ∧ (bestV vs t1).sum ≤ (largV vs t1).sum := by
      obtain ⟨m, hm, em⟩ := reach_set vs 0 _ (proper_reach g4)
      rw [Int.zero_add] at em
      rw [HVL.out] at hm
      rw [hsl]
      rcases lbest_spec vs t1 (by omega) (2 ^ vn) with ⟨_, h5⟩ | ⟨h5, _, h6⟩
      · have := h5 m hm; omega
      · exact ⟨h5, by rw [← em]; exact h6 m hm (by omega)⟩
    rw [← hsl]
    have hplen : 0 < (largV vs t1).places.length := List.length_pos_of_mem g5
    have hsm := sum_bd' vs HVS.out
    have hgz : vs.getD g.toNat 0 ≤ 2100000000000000 := (getD_good HVS.out.2 (by have := g8 g g5; omega)).2
    have HSG := Lib.hid (small_ge hgz g7)
    have HG8 := Lib.hid g8
    have hg6 : (largV vs t1).sum < t1 + vs.getD g.toNat 0 := by omega
    generalize vs.getD g.toNat 0 = gz at *
    clear e2 g4 g5 g6 g7 g8 hsl hf
    rw [e1, g1]
    clear e1 g1
    generalize bestV vs t1 = R at *
    generalize largV vs t1 = Q at *
    have HS5 := Lib.hid (HS4.out.alloc (.cells #[.slice bA Q.places.length bc, .int .i64 Q.sum] 29))
    have a0 := HS5.out.cell 0
    have a1 := HS5.out.cell 1
    simp at a0 a1
    have hne : (R.sum != R.sum) = false := by simp
    obtain ⟨ln, hln⟩ : ∃ ln, Q.places.length = ln := ⟨_, rfl⟩
    rw [hln] at HX5 HS1 a0 a1 hplen
    have HLN := Lib.hid hln
    simp only [hln]
    clear hln HS5
    have hn0 : decide (R.sum < 0) = false := by simp; omega
    go_wp2_with fail
    refine (HS1.out _ (Below.refl _ _)).mono ?_
    rintro e w6 ⟨rfl, hb6⟩
    have hz6 : w4.heap.size + 1 ≤ w6.heap.size := by have := hb6.size; simpa using this
    have HX6 := Lib.hid (HX5.out.below hb6 (by simp))
    have x0 := HX6.out.1.cell 0
    have x1 := HX6.out.1.cell 1
    simp [HLN.out] at x0 x1
    have hn1 : decide (Q.sum < R.sum) = false := by simp; omega
    have hn2 : ((ln : Int) == 0) = false := by simp; omega
    have HV6 := Lib.hid ((HV4.out.alloc (by omega) _).below hb6 (by simp; omega))
    have HB6 := Lib.hid ((HB4.out.alloc (by omega) _).trans (hb6.mono (by simp; omega)))
    clear HV4 HB4 HS1 hb6 a0 a1 HP4 HT4 HS4
    go_wp2_with fail
    go_loop [11, 13, 80] (fun a _ i => ∃ k : Nat, k ≤ ln ∧ i = .int .i64 k ∧ a = .int .i64 (smallV vs Q.places k)) (fun _ _ i => ln - (intOf i).toNat)
    case atStart => exact ⟨0, Nat.zero_le _, rfl, rfl⟩
    case round =>
      obtain ⟨k, hk, rfl, rfl⟩ := hrel
      by_cases hlt : k < ln
      · have hkp : k < Q.places.length := by rw [HLN.out]; exact hlt
        have HG := Lib.hid (show Q.places.getD k 0 = Q.places[k] by simp [List.getD, hkp])
        obtain ⟨ad, hA, hadb, hcell⟩ := HX6.out.2.at_ (get_i64 hkp)
        have hpb := HG8.out _ (List.getElem_mem hkp)
        have HSU := Lib.hid (show smallV vs Q.places (k + 1) = min (smallV vs Q.places k) (vs.getD (Q.places.getD k 0).toNat 0) from rfl)
        rw [HG.out] at HSU
        rw [HVL.out] at hpb
        subst hA
        generalize Q.places[k] = p at *
        obtain ⟨p, rfl⟩ := Int.eq_ofNat_of_zero_le (show 0 ≤ p by omega)
        have hpz : p < vs.length := by rw [HVL.out]; omega
        obtain ⟨bd, hA, hbdb, hcellz⟩ := HV6.out.at_ (get_i64 hpz)
        have HZ := Lib.hid (show vs.getD (p : Int).toNat 0 = vs[p] by simp [List.getD, hpz])
        rw [HZ.out] at HSU
        generalize vs[p] = z at *
        subst hA
        generalize smallV vs Q.places k = sv at *
        go_wp2_with fail
        go_round
        case rel => exact ⟨k + 1, by omega, by go_num, by rw [HSU.out]⟩
        case measure => simp [intOf]; omega
      · have e : k = ln := by omega
        subst e
        have hsg := HSG.out k (by rw [HLN.out]; omega)
        have hsu : smallV vs Q.places k ≤ 2100000000000000 := small_le _ _ _
        have hsl := small_lo HVS.out (ps := Q.places) k
        generalize smallV vs Q.places k = sv at *
        have hd : decide (Q.sum < t1 + sv) = true := by simp; omega
        go_wp2
        go_ret
        exact ⟨rfl, HB6.out⟩
end Go.Proofs.Ytlajgdeoobmjjaa
