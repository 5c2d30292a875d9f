import Derived.Test.YtlajgdeoobmjjaaSane
namespace Go.Proofs.Ytlajgdeoobmjjaa
open Go.RowKit

theorem best_len (zs : List Int) (t : Int) : (bestV zs t).places.length ≤ 16 := by
  rw [best_eq]
  unfold rbestV
  by_cases hc : checkV zs t = 0
  · obtain ⟨hv, ht⟩ := (checkV_ok zs t).1 hc
    simp only [hc]
    by_cases hf : zs.sum < t
    · simp [hf, failR]
    · simp only [hf]
      unfold rbestOk
      by_cases h : 16384 < (branchV t (leastV t zs 0 zs.sum) zs 0 []).length
      · simp [h, failR]
      · simp only [h]
        rcases hp : placesV zs 0 (leastV t zs 0 zs.sum) with _ | l
        · simp
        · have := placesV_len _ _ _ _ hp
          have := hv.1
          simp; omega
  · simp [hc, failR]

/-- a slice of int64 that can be read -/
def IsVals (w : World) (B : Nat) (v : Value) : Prop := ∃ A n c zs, v = .slice A n c ∧ Rd w B A (I64 zs) ∧ zs.length = n ∧ n ≤ c ∧ n ≤ maxLen
theorem IsVals.below {w w' : World} {B C : Nat} {v : Value} (h : IsVals w B v) (hb : Below C w w') (hC : B ≤ C) : IsVals w' B v := by
  obtain ⟨A, n, c, zs, rfl, h1, h2, h3, h4⟩ := h
  exact ⟨A, n, c, zs, rfl, h1.below hb hC, h2, h3, h4⟩

set_option maxHeartbeats 2000000 in
theorem selectionBest_any (A0 A1 : Option Addr) (n0 c0 n1 c1 : Nat) (ls rs : List Int) (t2 : Int) (w : World) (hr0 : Rd w w.heap.size A0 (I64 ls)) (hl0 : ls.length = n0) (hm0 : n0 ≤ maxLen)
    (hr1 : Rd w w.heap.size A1 (I64 rs)) (hl1 : rs.length = n1) (hc1 : n1 ≤ c1) (hm1 : n1 ≤ maxLen) :
    Calls Try.prog 3 #[.slice A0 n0 c0, .slice A1 n1 c1, .int .i64 t2] w fun e w' => e = .returned (.bool true) ∧ Below w.heap.size w w' := by
  have HR0 := Lib.hid hr0; clear hr0
  have HL0 := Lib.hid hl0; clear hl0
  have HR1 := Lib.hid (show IsVals w w.heap.size (.slice A1 n1 c1) from ⟨A1, n1, c1, rs, rfl, hr1, hl1, hc1, hm1⟩); clear hr1 hl1
  by_cases hsk : 12 < n1 ∧ n1 ≤ 16
  · obtain ⟨h1, h2⟩ := hsk
    go_enter Try.func3, Try.ntmps3
    go_wp2_with fail
    refine (sane_any w).mono ?_
    rintro e w1 ⟨rfl, hb1⟩
    go_wp2
    go_ret
    exact ⟨rfl, hb1⟩
  · have hcase : (12 < n1 ∧ 16 < n1) ∨ n1 ≤ 12 := by omega
    clear hsk
    rcases hcase with ⟨h12, h16⟩ | h12
    all_goals
      go_enter Try.func3, Try.ntmps3
      go_wp2_with fail
      refine (sane_any w).mono ?_
      rintro e w1 ⟨rfl, hb1⟩
      have hz1 := hb1.size
      go_wp2_with fail
      refine (made_any A0 n0 c0 ls 9 w1 ((HR0.out.below hb1 (Nat.le_refl _)).more hz1) HL0.out hm0 (by omega) (by omega)).mono ?_
      rintro e w2 ⟨v, rfl, hv, hb2⟩
      have hz2 := hb2.size
      have HV2 := Lib.hid (show IsVals w2 w2.heap.size v by
        obtain ⟨vA, vc, rfl, hvc⟩ := slice_of_own hv
        have hk := (nextV_bd ls (9 + 1) (by omega))
        refine ⟨vA, _, vc, _, rfl, Rd.of_own hv, madeVals_len _ _, hvc, ?_⟩
        unfold madeK maxLen; omega)
      have HR2 := Lib.hid (show IsVals w2 w2.heap.size (.slice A1 n1 c1) by
        obtain ⟨A, n, c, zs, h0, h1, h2, h3, h4⟩ := (HR1.out.below hb1 (Nat.le_refl _)).below (hb2.mono hz1) (Nat.le_refl _)
        exact ⟨A, n, c, zs, h0, h1.more (by omega), h2, h3, h4⟩)
      have HB2 := Lib.hid (hb1.trans (hb2.mono hz1))
      obtain ⟨vA, vc, rfl, hvc⟩ := slice_of_own hv
      generalize madeT ls 9 = t1 at *
      generalize madeK ls 9 = n2 at *
      clear hv hb1 hb2
      go_wp2_with fail
      go_loopw [10, 12, 13, 14, 15, 16, 17, 18, 38] (fun _ _ _ _ _ _ _ _ i wr => ∃ k : Nat, k ≤ 2 ∧ i = .int .i64 k ∧ Below (w2.heap.size + 1) (w2.alloc (.cells #[.slice vA n2 vc, .slice A1 n1 c1] 23)) wr) (fun _ _ _ _ _ _ _ _ i _ => 2 - (intOf i).toNat)
      case atStart => exact ⟨0, by omega, rfl, Below.refl _ _⟩
      case round =>
        obtain ⟨k, hk, rfl, hbo⟩ := hrel
        obtain ⟨wo, rfl⟩ : ∃ wo : World, wo = wr := ⟨_, rfl⟩
        have hzo : w2.heap.size + 1 ≤ wo.heap.size := by have := hbo.size; simpa using this
        by_cases hlt : k < 2
        · obtain ⟨xA, xn, xc, xs, hcell, hx⟩ : ∃ xA xn xc xs, wo.cell? ⟨w2.heap.size, k, none⟩ = some (.slice xA xn xc) ∧ (Rd wo w2.heap.size xA (I64 xs) ∧ xs.length = xn ∧ xn ≤ xc ∧ xn ≤ maxLen) := by
            have hb : Below w2.heap.size w2 wo := ((Below.refl _ w2).alloc (Nat.le_refl _) _).trans (hbo.mono (by omega))
            have hB : Blk wo w2.heap.size 23 #[.slice vA n2 vc, .slice A1 n1 c1] := (Blk.new w2 23 _).below hbo (by omega)
            have hc := hB.cell k
            obtain ⟨A, n, c, zs, h0, h1⟩ := HV2.out.below hb (Nat.le_refl _)
            obtain ⟨A', n', c', zs', h0', h1'⟩ := HR2.out.below hb (Nat.le_refl _)
            rcases (show k = 0 ∨ k = 1 by omega) with rfl | rfl
            · exact ⟨A, n, c, zs, by rw [hc, ← h0]; rfl, h1⟩
            · exact ⟨A', n', c', zs', by rw [hc, ← h0']; rfl, h1'⟩
          have HX := Lib.hid hx
          have hbo' := hbo
          have hdk : decide ((k : Int) < 2) = true := by simp; omega
          clear hx hbo
          go_wp2_with fail
          go_loopw [12, 13, 14, 15, 16, 17, 18, 46] (fun _ _ _ _ _ _ _ i wr => ∃ j : Nat, j ≤ 2 ∧ i = .int .i64 j ∧ Below (wo.heap.size + 1) (wo.alloc (.cells #[.int .i64 t1, .int .i64 t2] 2)) wr) (fun _ _ _ _ _ _ _ i _ => 2 - (intOf i).toNat)
          case atStart => exact ⟨0, by omega, rfl, Below.refl _ _⟩
          case round =>
            obtain ⟨j, hj, rfl, hbi⟩ := hrel
            have hzi : wo.heap.size + 1 ≤ wr.heap.size := by have := hbi.size; simpa using this
            have hbi' : Below wo.heap.size wo wr := ((Below.refl _ wo).alloc (Nat.le_refl _) _).trans (hbi.mono (by omega))
            by_cases hjt : j < 2
            · obtain ⟨tt, hct⟩ : ∃ tt : Int, wr.cell? ⟨wo.heap.size, j, none⟩ = some (.int .i64 tt) := by
                have hB : Blk wr wo.heap.size 2 #[.int .i64 t1, .int .i64 t2] := (Blk.new wo 2 _).below hbi (by omega)
                have hc := hB.cell j
                rcases (show j = 0 ∨ j = 1 by omega) with rfl | rfl
                · exact ⟨t1, by rw [hc]; rfl⟩
                · exact ⟨t2, by rw [hc]; rfl⟩
              have HXR := Lib.hid (HX.out.1.below (hbi'.mono hzo) (by omega))
              have HBI := Lib.hid hbi
              clear hbi hbi'
              go_wp2_with fail
              refine (best_any xA xn xc xs tt wr (HXR.out.more (by omega)) HX.out.2.1 HX.out.2.2.1 HX.out.2.2.2).mono ?_
              rintro e w3 ⟨pv, tv, rfl, hpv, htv, hb3⟩
              have hlen := best_len xs tt
              have HRB := Lib.hid (fun (W : World) (h : Rd W W.heap.size xA (I64 xs)) => rbest_any xA xn xc xs tt W h HX.out.2.1 HX.out.2.2.1 HX.out.2.2.2)
              rw [← best_eq] at HRB
              generalize bestV xs tt = R at *
              obtain ⟨pA, pc, rfl, hpc⟩ := slice_of_own hpv
              obtain ⟨tA, tc, rfl, htc⟩ := slice_of_own htv
              have hz3 := hb3.size
              have HP := Lib.hid (Rd.of_own hpv)
              have HT := Lib.hid (Rd.of_own htv)
              have HB3 := Lib.hid hb3
              clear hpv htv hb3 hct hcell
              go_wp2_with fail
              refine (HRB.out _ (((HXR.out.below HB3.out (by omega)).alloc (by omega) _).more (by simp; omega))).mono ?_
              rintro e w5 ⟨pv, tv, rfl, hpv, htv, hb5⟩
              obtain ⟨qA, qc, rfl, hqc⟩ := slice_of_own hpv
              obtain ⟨uA, uc, rfl, huc⟩ := slice_of_own htv
              have hb35 : Below w3.heap.size w3 w5 := ((Below.refl _ w3).alloc (Nat.le_refl _) _).trans (hb5.mono (by simp))
              have hz5 : w3.heap.size + 1 ≤ w5.heap.size := by have := hb5.size; simpa using this
              have hS : Blk w5 w3.heap.size 29 #[.slice pA R.places.length pc, .int .i64 R.sum] := (Blk.new w3 29 _).below hb5 (by simp)
              have HP5 := Lib.hid ((HP.out.below hb35 (Nat.le_refl _)).more (show w3.heap.size ≤ w5.heap.size by omega))
              have HT5 := Lib.hid ((HT.out.below hb35 (Nat.le_refl _)).more (show w3.heap.size ≤ w5.heap.size by omega))
              have HQ5 := Lib.hid (Rd.of_own hpv)
              have HU5 := Lib.hid (Rd.of_own htv)
              have HBI5 := Lib.hid (HBI.out.trans ((HB3.out.trans (hb35.mono hz3)).mono hzi))
              have hSn : ∀ o, Blk (w5.alloc o) w3.heap.size 29 #[.slice pA R.places.length pc, .int .i64 R.sum] := fun o => hS.alloc o
              have s0 := (hSn (.cells #[.slice qA R.places.length qc, .int .i64 R.sum] 29)).cell 0
              have s1 := (hSn (.cells #[.slice qA R.places.length qc, .int .i64 R.sum] 29)).cell 1
              simp at s0 s1
              have hde : (R.err != R.err) = false := by simp
              clear hpv htv hb5 hS hb35 hSn
              go_wp2_with fail
              refine (same_any pA qA R.places.length R.places.length pc qc R.places R.places R.sum R.sum _ w5.heap.size (by simp) (HP5.out.alloc (Nat.le_refl _) _) (HQ5.out.alloc (Nat.le_refl _) _) rfl rfl (by omega) (by omega)).mono ?_
              rintro e w6 ⟨rfl, hb6⟩
              rw [show sameB R.places R.sum R.places R.sum = true by simp [sameB]]
              have hb56 : Below w5.heap.size w5 w6 := ((Below.refl _ w5).alloc (Nat.le_refl _) _).trans (hb6.mono (by simp))
              have hst1 := run_str (P := Try.prog) w6 30 9 5 Try.underlying30 Try.underlying5 Try.underlying9 tA R.trace.length tc R.trace w5.heap.size (HT5.out.below hb56 (Nat.le_refl _)) rfl
              have hst2 := run_str (P := Try.prog) w6 30 9 5 Try.underlying30 Try.underlying5 Try.underlying9 uA R.trace.length uc R.trace w5.heap.size (HU5.out.below hb56 (Nat.le_refl _)) rfl
              have HB6 := Lib.hid (HBI5.out.trans (hb56.mono (by omega)))
              generalize strOfNums R.trace = ss at *
              have hss : (ss.toList != ss.toList) = false := by simp
              clear hb6 hb56
              go_wp2_with fail
              go_roundw
              case rel => exact ⟨j + 1, by omega, by go_num, HB6.out⟩
              case measure => simp [intOf]; omega
            · go_wp2_with fail
              go_roundw
              case rel => exact ⟨k + 1, by omega, by go_num, hbo'.trans (hbi'.mono (by omega))⟩
              case measure => simp [intOf]; omega
        · go_wp2
          go_ret
          exact ⟨rfl, HB2.out.trans (((Below.refl _ w2).alloc (Nat.le_refl _) _).trans (hbo.mono (by omega)) |>.mono (by omega))⟩
end Go.Proofs.Ytlajgdeoobmjjaa
