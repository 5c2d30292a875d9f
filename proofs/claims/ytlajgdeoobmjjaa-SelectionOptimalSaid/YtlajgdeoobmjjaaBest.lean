import Derived.Test.YtlajgdeoobmjjaaRef
namespace Go.Proofs.Ytlajgdeoobmjjaa
open Go.RowKit

structure BestR where
  places : List Int
  sum : Int
  trace : List Int
  err : Int

def failR (e : Int) : BestR := ⟨[], 0, [], e⟩
def bestOk (zs : List Int) (t : Int) : BestR :=
  let b := visitV t zs 0 0 [] ([], 0)
  let tr := branchV t b.2 zs 0 []
  if 16384 < tr.length then failR 4 else ⟨b.1, b.2, tr, 0⟩
def bestV (zs : List Int) (t : Int) : BestR :=
  if checkV zs t ≠ 0 then failR (checkV zs t) else if zs.sum < t then failR 320 else bestOk zs t

def BestPost (w : World) (r : BestR) (e : Ending) (w' : World) : Prop :=
  ∃ pv tv, e = .returned (.tuple #[.agg #[pv, .int .i64 r.sum], tv, .int .i64 r.err]) ∧ w'.ownsRow w.heap.size 3 1 pv r.places.length (I64 r.places) ∧ w'.ownsRow w.heap.size 5 1 tv r.trace.length (U8 r.trace) ∧ Below w.heap.size w w'

set_option maxHeartbeats 1000000 in
theorem best_any (A : Option Addr) (n c : Nat) (zs : List Int) (t : Int) (w : World) (hr : Rd w w.heap.size A (I64 zs)) (hl : zs.length = n) (hc : n ≤ c) (hm : n ≤ maxLen) :
    Calls Try.prog 10 #[.slice A n c, .int .i64 t] w (BestPost w (bestV zs t)) := by
  have HRD := Lib.hid hr
  have HCH := Lib.hid (fun (W : World) (h : Rd W w.heap.size A (I64 zs)) => check_any A n c zs t W w.heap.size h hl hm)
  by_cases hchk : checkV zs t = 0
  · obtain ⟨hv, ht⟩ := (checkV_ok zs t).1 hchk
    rw [hchk] at HCH
    have hsum := sum_bd' zs hv
    have HT := Lib.hid (fun (W : World) (h : Rd W w.heap.size A (I64 zs)) => total_any A n c zs W w.heap.size h hl hv)
    by_cases hfund : zs.sum < t
    · have HE := Lib.hid (show bestV zs t = failR 320 by simp [bestV, hchk, hfund])
      clear hchk hr hl
      go_enter Try.func10, Try.ntmps10
      go_wp2_with fail
      refine (HCH.out _ (HRD.out.alloc (Nat.le_refl _) _)).mono ?_
      rintro e w1 ⟨rfl, rfl⟩
      go_wp2_with fail
      refine (HT.out _ (HRD.out.alloc (Nat.le_refl _) _)).mono ?_
      rintro e w1 ⟨rfl, rfl⟩
      go_wp2
      rw [HE.out]
      refine bodyPost_ret (v := .tuple #[.agg #[.slice none 0 0, .int .i64 0], .slice none 0 0, .int .i64 320]) (by simp [results, Try.results10, go_sem]) rfl ?_
      exact ⟨_, _, rfl, World.ownsRow_nil _ _ _ _, World.ownsRow_nil _ _ _ _, (Below.refl _ _).alloc (Nat.le_refl _) _⟩
    · have HE := Lib.hid (show bestV zs t = bestOk zs t by simp [bestV, hchk, hfund])
      have hn16 : n ≤ 16 := by rw [← hl]; exact hv.1
      have HV := Lib.hid (fun base g (hg : base ≤ g) (W : World) (hst : SearchAt W g base A n c t [] ([], 0)) (h : Rd W base A (I64 zs)) => visit_any g base A n c zs t hg hl hv zs 0 0 [] ([], 0) W rfl (Nat.zero_le _) (by omega) (by omega) (by simp) hst h)
      have HBR := Lib.hid (fun base g (hg : base ≤ g) best (W : World) (hst : CertOwn W g base A n c t best []) (h : Rd W base A (I64 zs)) => branch_any g base A n c zs t best hg hl hc hv zs 0 0 [] W rfl (Nat.zero_le _) (by omega) (by omega) hst h)
      clear hchk hr hl
      go_enter Try.func10, Try.ntmps10
      go_wp2_with fail
      refine (HCH.out _ (HRD.out.alloc (Nat.le_refl _) _)).mono ?_
      rintro e w1 ⟨rfl, rfl⟩
      go_wp2_with fail
      refine (HT.out _ (HRD.out.alloc (Nat.le_refl _) _)).mono ?_
      rintro e w1 ⟨rfl, rfl⟩
      go_wp2_with fail
      refine (HV.out (w.heap.size + 1) (w.heap.size + 1) (Nat.le_refl _) _ ⟨_, _, ?_, World.ownsRow_nil _ _ _ _, World.ownsRow_nil _ _ _ _, by simp [Value.ownBlock]⟩ ?_).mono ?_
      · exact Blk.new_ (by simp)
      · exact ((HRD.out.alloc (Nat.le_refl _) _).alloc (by simp) _).more (by omega)
      rintro e w1 ⟨rfl, ⟨tk, bp, hB1, htk, hbp, hne⟩, hb1⟩
      clear htk hne
      have HB1 := Lib.hid hB1
      have HBP := Lib.hid hbp
      obtain ⟨bA, bc, rfl, hbc⟩ := slice_of_own hbp
      have hz1 : w.heap.size + 2 ≤ w1.heap.size := by have := hb1.size; simpa using this
      have hR0 : Blk w1 w.heap.size 29 #[.slice none 0 0, .int .i64 0] := ((Blk.new w 29 _).alloc _).below hb1 (by omega)
      have HR0 := Lib.hid hR0
      have HBW := Lib.hid (show Below w.heap.size w w1 from (((Below.refl _ w).alloc (Nat.le_refl _) _).alloc (by simp) _).trans (hb1.mono (by omega)))
      generalize hb0 : visitV t zs 0 0 [] ([], 0) = b at *
      have c3 := hB1.cell 3
      have c4 := hB1.cell 4
      simp at c3 c4
      clear hB1 hbp hb1 hR0
      go_wp2_with fail
      refine (HBR.out w1.heap.size w1.heap.size (Nat.le_refl _) b.2 _ ⟨_, ?_, World.ownsRow_nil _ _ _ _⟩ ?_).mono ?_
      · exact Blk.new_ rfl
      · exact ((HRD.out.below HBW.out (Nat.le_refl _)).alloc (by omega) _).more (by omega)
      rintro e w2 ⟨rfl, ⟨tv, hB2, htv⟩, hb2⟩
      have hb12 : Below w1.heap.size w1 w2 := ((Below.refl _ w1).alloc (Nat.le_refl _) _).trans hb2
      have hR2 := HR0.out.below hb12 (by omega)
      have hS2 := HB1.out.below hb12 (by omega)
      have HBP2 := Lib.hid (own_more (own_below HBP.out hb12) (show w.heap.size ≤ w.heap.size + 1 by omega))
      have HTV := Lib.hid (own_more htv (show w.heap.size ≤ w1.heap.size by omega))
      have HBW2 := Lib.hid (HBW.out.trans (hb12.mono (by omega)))
      obtain ⟨tA, tc, rfl, htc⟩ := slice_of_own htv
      have HR2 := Lib.hid hR2
      have r0 := hR2.cell 0
      have r1 := hR2.cell 1
      have k0 := hR2.frozen 0
      have k1 := hR2.frozen 1
      have s3 := hS2.cell 3
      have s4 := hS2.cell 4
      have t3 := Blk.cell hB2 3
      simp at r0 r1 s3 s4 t3
      have HO := Lib.hid (show bestOk zs t = (if 16384 < (branchV t b.2 zs 0 []).length then failR 4 else ⟨b.1, b.2, branchV t b.2 zs 0 [], 0⟩) by unfold bestOk; rw [hb0])
      generalize branchV t b.2 zs 0 [] = tr at *
      clear hb0 htv hb2 hR2 hS2 hB2 c3 c4 hb12
      have HQ := Lib.hid (fun v u => show Blk ((w2.setCell ⟨w.heap.size, 0, none⟩ v).setCell ⟨w.heap.size, 1, none⟩ u) w.heap.size 29 #[v, u] by simpa using (HR2.out.set_ 0 v).set_ 1 u)
      have HBL := Lib.hid (fun v u => ((HBW2.out.setCell (p := ⟨w.heap.size, 0, none⟩) (Nat.le_refl _) v).setCell (p := ⟨w.heap.size, 1, none⟩) (Nat.le_refl _) u))
      by_cases hfull : 16384 < tr.length
      · go_wp2
        rw [HE.out, HO.out, if_pos hfull]
        have q0 := (HQ.out (.slice none 0 0) (.int .i64 0)).cell 0
        have q1 := (HQ.out (.slice none 0 0) (.int .i64 0)).cell 1
        simp at q0 q1
        refine bodyPost_ret (v := .tuple #[.agg #[.slice none 0 0, .int .i64 0], .slice none 0 0, .int .i64 4]) (by simp [results, Try.results10, go_sem, q0, q1]) rfl ?_
        exact ⟨_, _, rfl, World.ownsRow_nil _ _ _ _, World.ownsRow_nil _ _ _ _, HBL.out _ _⟩
      · go_wp2_with fail
        go_region
        go_wp2
        rw [HE.out, HO.out, if_neg hfull]
        have q0 := (HQ.out (.slice bA b.1.length bc) (.int .i64 b.2)).cell 0
        have q1 := (HQ.out (.slice bA b.1.length bc) (.int .i64 b.2)).cell 1
        simp at q0 q1
        refine bodyPost_ret (v := .tuple #[.agg #[.slice bA b.1.length bc, .int .i64 b.2], .slice tA tr.length tc, .int .i64 0]) (by simp [results, Try.results10, go_sem, q0, q1]) rfl ?_
        refine ⟨_, _, rfl, ?_, ?_, (HBL.out _ _).drew⟩
        · exact own_setCell_far (own_setCell_far HBP2.out HR2.out (by decide) _) (HR2.out.set_ 0 _) (by decide) _
        · exact own_setCell_far (own_setCell_far HTV.out HR2.out (by decide) _) (HR2.out.set_ 0 _) (by decide) _
  · have HE := Lib.hid (show bestV zs t = failR (checkV zs t) by simp [bestV, hchk])
    generalize checkV zs t = x at *
    have hd : (x != 0) = true := by simp [bne_iff_ne, hchk]
    clear hchk hr hl
    go_enter Try.func10, Try.ntmps10
    go_wp2_with fail
    refine (HCH.out _ (HRD.out.alloc (Nat.le_refl _) _)).mono ?_
    rintro e w1 ⟨rfl, rfl⟩
    go_wp2
    rw [HE.out]
    refine bodyPost_ret (v := .tuple #[.agg #[.slice none 0 0, .int .i64 0], .slice none 0 0, .int .i64 x]) (by simp [results, Try.results10, go_sem]) rfl ?_
    exact ⟨_, _, rfl, World.ownsRow_nil _ _ _ _, World.ownsRow_nil _ _ _ _, (Below.refl _ _).alloc (Nat.le_refl _) _⟩
end Go.Proofs.Ytlajgdeoobmjjaa
