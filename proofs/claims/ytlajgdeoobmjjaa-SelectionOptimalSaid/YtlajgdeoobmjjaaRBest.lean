import Derived.Test.YtlajgdeoobmjjaaPlain
namespace Go.Proofs.Ytlajgdeoobmjjaa
open Go.RowKit

set_option maxHeartbeats 1000000 in
theorem rbest_any (A : Option Addr) (n c : Nat) (zs : List Int) (t : Int) (w : World) (hr : Rd w w.heap.size A (I64 zs)) (hl : zs.length = n) (hc : n ≤ c) (hm : n ≤ maxLen) :
    Calls Try.prog 11 #[.slice A n c, .int .i64 t] w (BestPost w (rbestV zs t)) := by
  have HRD := Lib.hid hr
  have HCH := Lib.hid (fun (W : World) (h : Rd W w.heap.size A (I64 zs)) => proper_any A n c zs t W w.heap.size h hl hm)
  by_cases hchk : checkV zs t = 0
  · obtain ⟨hv, ht⟩ := (checkV_ok zs t).1 hchk
    rw [hchk] at HCH
    have hsum := sum_bd' zs hv
    have HT := Lib.hid (fun (W : World) (h : Rd W w.heap.size A (I64 zs)) => sum_any A n c zs W w.heap.size h hl hv)
    by_cases hfund : zs.sum < t
    · have HE := Lib.hid (show rbestV zs t = failR 320 by simp [rbestV, hchk, hfund])
      clear hchk hr hl
      go_enter Try.func11, Try.ntmps11
      go_wp2_with fail
      refine (HCH.out _ (HRD.out.alloc (Nat.le_refl _) _)).mono ?_
      rintro e w1 ⟨rfl, rfl⟩
      go_wp2_with fail
      refine (HT.out _ (HRD.out.alloc (Nat.le_refl _) _)).mono ?_
      rintro e w1 ⟨rfl, rfl⟩
      go_wp2
      rw [HE.out]
      refine bodyPost_ret (v := .tuple #[.agg #[.slice none 0 0, .int .i64 0], .slice none 0 0, .int .i64 320]) (by simp [results, Try.results11, go_sem]) rfl ?_
      exact ⟨_, _, rfl, World.ownsRow_nil _ _ _ _, World.ownsRow_nil _ _ _ _, (Below.refl _ _).alloc (Nat.le_refl _) _⟩
    · have HE := Lib.hid (show rbestV zs t = rbestOk zs t by simp [rbestV, hchk, hfund])
      have hn16 : n ≤ 16 := by rw [← hl]; exact hv.1
      obtain ⟨f1, f2, f3, f4⟩ := least_facts (t := t) (pos_of_vals hv) hfund
      unfold Good at ht
      have HL := Lib.hid (fun (W : World) (h : Rd W w.heap.size A (I64 zs)) => least_any t zs A n c 0 zs.sum W w.heap.size hl hc hv (by omega) (by omega) h)
      have HP := Lib.hid (fun (W : World) (best : Int) (h0 : 0 ≤ best) (h1 : best ≤ 33600000000000000) (h : Rd W w.heap.size A (I64 zs)) (hz : w.heap.size ≤ W.heap.size) => places_any A n c zs hl hc hv zs 0 best W w.heap.size rfl (Nat.zero_le _) (by omega) (by omega) h hz)
      have HTR := Lib.hid (fun (W : World) (base : Nat) (h : Rd W base A (I64 zs)) (hz : base ≤ W.heap.size) => trace_any base A n c zs t _ hl hc hv zs 0 0 [] (.slice none 0 0) W rfl (Nat.zero_le _) (by omega) (by omega) f1 (World.ownsRow_nil _ _ _ _) hz h)
      have HO := Lib.hid (show rbestOk zs t = (if 16384 < (branchV t (leastV t zs 0 zs.sum) zs 0 []).length then failR 4 else ⟨(placesV zs 0 (leastV t zs 0 zs.sum)).getD [], (leastV t zs 0 zs.sum), branchV t (leastV t zs 0 zs.sum) zs 0 [], 0⟩) from rfl)
      clear hchk hr hl f1 f3
      generalize leastV t zs 0 zs.sum = best at *
      generalize hsm : zs.sum = sm at *
      have HSM := Lib.hid hsm; clear hsm
      go_enter Try.func11, Try.ntmps11
      go_wp2_with fail
      refine (HCH.out _ (HRD.out.alloc (Nat.le_refl _) _)).mono ?_
      rintro e w1 ⟨rfl, rfl⟩
      go_wp2_with fail
      refine (HT.out _ (HRD.out.alloc (Nat.le_refl _) _)).mono ?_
      rintro e w1 ⟨rfl, rfl⟩
      go_wp2_with fail
      refine (HT.out _ (HRD.out.alloc (Nat.le_refl _) _)).mono ?_
      rintro e w1 ⟨rfl, rfl⟩
      go_wp2_with fail
      refine (HL.out _ (HRD.out.alloc (Nat.le_refl _) _)).mono ?_
      rintro e w1 ⟨rfl, m, rfl⟩
      go_wp2_with fail
      refine (HP.out _ best (by omega) (by omega) ((HRD.out.alloc (Nat.le_refl _) _).drewN m) (by show w.heap.size ≤ (w.alloc _).heap.size; simp)).mono ?_
      rintro e w1 ⟨pv, rfl, hpv, hb1⟩
      have hz1 : w.heap.size + 1 ≤ w1.heap.size := by
        have h : (w.alloc (.cells #[.slice none 0 0, .int .i64 0] 29)).heap.size ≤ w1.heap.size := hb1.size
        simpa using h
      have hR1 : Blk w1 w.heap.size 29 #[.slice none 0 0, .int .i64 0] := Blk.below (w := (w.alloc (.cells #[.slice none 0 0, .int .i64 0] 29)).drewN m) (Blk.new w 29 _) hb1 (by show w.heap.size < (w.alloc _).heap.size; simp)
      have HR1 := Lib.hid hR1
      have HBW1 := Lib.hid (show Below w.heap.size w w1 from (below_drewN ((Below.refl _ w).alloc (Nat.le_refl _) (.cells #[.slice none 0 0, .int .i64 0] 29)) m).trans (hb1.mono (by show w.heap.size ≤ (w.alloc _).heap.size; simp)))
      have HPV := Lib.hid (own_more hpv (show w.heap.size ≤ ((w.alloc (.cells #[.slice none 0 0, .int .i64 0] 29)).drewN m).heap.size by show w.heap.size ≤ (w.alloc _).heap.size; simp))
      obtain ⟨pA, pc, rfl, hpc⟩ := slice_of_own hpv
      clear hpv hb1 hR1
      generalize (placesV zs 0 best).getD [] = pl at *
      generalize (placesV zs 0 best).isSome = pb at *
      go_wp2_with fail
      refine (HTR.out w1 w1.heap.size ((HRD.out.below HBW1.out (Nat.le_refl _)).more (by omega)) (Nat.le_refl _)).mono ?_
      rintro e w2 ⟨tv, rfl, htv, hb2⟩
      have hR2 := HR1.out.below hb2 (by omega)
      have HR2 := Lib.hid hR2
      have HPV2 := Lib.hid (own_below HPV.out hb2)
      have HTV := Lib.hid (own_more htv (show w.heap.size ≤ w1.heap.size by omega))
      have HBW2 := Lib.hid (HBW1.out.trans (hb2.mono (by omega)))
      obtain ⟨tA, tc, rfl, htc⟩ := slice_of_own htv
      have r0 := hR2.cell 0
      have r1 := hR2.cell 1
      have k0 := hR2.frozen 0
      have k1 := hR2.frozen 1
      simp at r0 r1
      generalize branchV t best zs 0 [] = tr at *
      clear htv hb2 hR2
      have HQ := Lib.hid (fun v u => show Blk ((w2.setCell ⟨w.heap.size, 0, none⟩ v).setCell ⟨w.heap.size, 1, none⟩ u) w.heap.size 29 #[v, u] by simpa using (HR2.out.set_ 0 v).set_ 1 u)
      have HBL := Lib.hid (fun v u => ((HBW2.out.setCell (p := ⟨w.heap.size, 0, none⟩) (Nat.le_refl _) v).setCell (p := ⟨w.heap.size, 1, none⟩) (Nat.le_refl _) u))
      by_cases hfull : 16384 < tr.length
      · go_wp2
        rw [HE.out, HO.out, if_pos hfull]
        have q0 := (HQ.out (.slice none 0 0) (.int .i64 0)).cell 0
        have q1 := (HQ.out (.slice none 0 0) (.int .i64 0)).cell 1
        simp at q0 q1
        refine bodyPost_ret (v := .tuple #[.agg #[.slice none 0 0, .int .i64 0], .slice none 0 0, .int .i64 4]) (by simp [results, Try.results11, go_sem, q0, q1]) rfl ?_
        exact ⟨_, _, rfl, World.ownsRow_nil _ _ _ _, World.ownsRow_nil _ _ _ _, HBL.out _ _⟩
      · go_wp2
        rw [HE.out, HO.out, if_neg hfull]
        have q0 := (HQ.out (.slice pA pl.length pc) (.int .i64 best)).cell 0
        have q1 := (HQ.out (.slice pA pl.length pc) (.int .i64 best)).cell 1
        simp at q0 q1
        refine bodyPost_ret (v := .tuple #[.agg #[.slice pA pl.length pc, .int .i64 best], .slice tA tr.length tc, .int .i64 0]) (by simp [results, Try.results11, go_sem, q0, q1]) rfl ?_
        refine ⟨_, _, rfl, ?_, ?_, HBL.out _ _⟩
        · exact own_setCell_far (own_setCell_far HPV2.out HR2.out (by decide) _) (HR2.out.set_ 0 _) (by decide) _
        · exact own_setCell_far (own_setCell_far HTV.out HR2.out (by decide) _) (HR2.out.set_ 0 _) (by decide) _
  · have HE := Lib.hid (show rbestV zs t = failR (checkV zs t) by simp [rbestV, hchk])
    generalize checkV zs t = x at *
    have hd : (x != 0) = true := by simp [bne_iff_ne, hchk]
    clear hchk hr hl
    go_enter Try.func11, Try.ntmps11
    go_wp2_with fail
    refine (HCH.out _ (HRD.out.alloc (Nat.le_refl _) _)).mono ?_
    rintro e w1 ⟨rfl, rfl⟩
    go_wp2
    rw [HE.out]
    refine bodyPost_ret (v := .tuple #[.agg #[.slice none 0 0, .int .i64 0], .slice none 0 0, .int .i64 x]) (by simp [results, Try.results11, go_sem]) rfl ?_
    exact ⟨_, _, rfl, World.ownsRow_nil _ _ _ _, World.ownsRow_nil _ _ _ _, (Below.refl _ _).alloc (Nat.le_refl _) _⟩
end Go.Proofs.Ytlajgdeoobmjjaa
