import Derived.Test.YtlajgdeoobmjjaaVisit
namespace Go.Proofs.Ytlajgdeoobmjjaa
open Go.RowKit

abbrev U8 (l : List Int) : List Value := l.map (Value.int .u8)

/-- the certificate, plain -/
def branchV (t best : Int) : List Int → Int → List Int → List Int
  | rest, s, tr =>
    if 16384 < tr.length then tr
    else if decide (best ≤ s) || decide (s + rest.sum < t) then tr ++ [2]
    else match rest with
      | [] => tr ++ [2]
      | z :: r => branchV t best r s (branchV t best r (s + z) (tr ++ [1]))

theorem branchV_full {t best : Int} {rest : List Int} {s : Int} {tr : List Int} (h : 16384 < tr.length) : branchV t best rest s tr = tr := by
  unfold branchV; rw [if_pos h]
theorem branchV_ends {t best : Int} {rest : List Int} {s : Int} {tr : List Int} (h : ¬ 16384 < tr.length) (he : (decide (best ≤ s) || decide (s + rest.sum < t)) = true) : branchV t best rest s tr = tr ++ [2] := by
  unfold branchV; rw [if_neg h, if_pos he]
theorem branchV_nil {t best : Int} {s : Int} {tr : List Int} (h : ¬ 16384 < tr.length) : branchV t best [] s tr = tr ++ [2] := by
  unfold branchV; rw [if_neg h]; split <;> rfl
theorem branchV_cons {t best z : Int} {r : List Int} {s : Int} {tr : List Int} (h : ¬ 16384 < tr.length) (he : (decide (best ≤ s) || decide (s + (z :: r).sum < t)) = false) :
    branchV t best (z :: r) s tr = branchV t best r s (branchV t best r (s + z) (tr ++ [1])) := by
  rw [branchV, if_neg h, he]; simp

def CertOwn (w : World) (g base : Nat) (A : Option Addr) (n c : Nat) (t best : Int) (tr : List Int) : Prop :=
  ∃ v, CertAt w g A n c t best v ∧ w.ownsRow base 5 1 v tr.length (U8 tr)

def BranchPost (w : World) (g base : Nat) (A : Option Addr) (n c : Nat) (t best : Int) (tr : List Int) (e : Ending) (w' : World) : Prop :=
  e = .returned (.tuple #[]) ∧ CertOwn w' g base A n c t best tr ∧ Below base w w'

theorem cert_push {w w1 : World} {g base : Nat} {A : Option Addr} {n c : Nat} {t best : Int} {tr : List Int} {tv v : Value} {x : Int} (hgb : base ≤ g) (hB : CertAt w g A n c t best tv)
    (htk : w.ownsRow base 5 1 tv tr.length (U8 tr))
    (hown : w1.ownsRow base 5 1 v (tr.length + 1) (U8 tr ++ [.int .u8 x])) (hg1 : w.grownBy w1 tv.ownBlock) :
    CertOwn (w1.setCell ⟨g, 3, none⟩ v) g base A n c t best (tr ++ [x]) ∧ Below base w (w1.setCell ⟨g, 3, none⟩ v) := by
  have hB1 := Blk.grown hB hg1 (own_blk_ne htk hB (by decide)).symm
  have hbase : base ≤ w.heap.size := Nat.le_trans hgb (Nat.le_of_lt (Blk.lt hB))
  refine ⟨⟨v, by simpa [CertAt] using hB1.set_ 3 v, ?_⟩, ?_⟩
  · have := own_setCell_far (i := 3) hown hB1 (by decide) v
    simpa using this
  · exact ((Below.refl base w).grown hg1 hbase (fun k hk => (htk.lt k hk).1)).setCell (p := ⟨g, 3, none⟩) hgb v

theorem CertOwn.drewN {w : World} {g base : Nat} {A : Option Addr} {n c : Nat} {t best : Int} {tr : List Int} (h : CertOwn w g base A n c t best tr) (k : Nat) : CertOwn (w.drewN k) g base A n c t best tr := h

set_option maxHeartbeats 1000000 in
theorem branch_leave (g base : Nat) (A : Option Addr) (n c : Nat) (zs : List Int) (t best : Int) (hg : base ≤ g) (hl : zs.length = n) (hc : n ≤ c) (hv : Vals zs)
    (i : Nat) (s : Int) (tr : List Int) (w : World) (hi : i ≤ n) (hs0 : 0 ≤ s) (hs1 : s ≤ 33600000000000000) (hst : CertOwn w g base A n c t best tr) (hr : Rd w base A (I64 zs)) (hfull : ¬ 16384 < tr.length)
    (hb : endsB zs t i s best = true ∨ i = n) :
    Calls Try.prog 24 #[.pointer (some ⟨g, 0, none⟩), .int .i64 i, .int .i64 s] w (BranchPost w g base A n c t best (tr ++ [2])) := by
  have hn : n ≤ 16 := by rw [← hl]; exact hv.1
  have HL := Lib.hid hl; clear hl
  have HV := Lib.hid hv; clear hv
  have HRD := Lib.hid hr; clear hr
  obtain ⟨tv, hblk, htk⟩ := hst
  have HB := Lib.hid hblk; clear hblk
  have HTK := Lib.hid htk; clear htk
  obtain ⟨tA, tc, rfl, htc⟩ := slice_of_own HTK.out
  have c0 := HB.out.cell 0
  have c1 := HB.out.cell 1
  have c2 := HB.out.cell 2
  have c3 := HB.out.cell 3
  have f3 := HB.out.frozen 3
  simp at c0 c1 c2 c3
  have hgs := HB.out.lt
  have HE := Lib.hid (ends_any g A n c zs t (i : Int) s best (.slice tA tr.length tc) w base HB.out HRD.out HL.out hc HV.out (by omega) (by omega) hs0 (by omega))
  rw [Int.toNat_natCast] at HE
  cases he : endsB zs t i s best with
  | true =>
    rw [he] at HE
    clear he hb
    go_enter Try.func24, Try.ntmps24
    go_wp2_with fail
    refine HE.out.mono ?_
    rintro e w1 ⟨rfl, m, rfl⟩
    go_wp2_with (at_builtin; refine wpList_push _ _ rfl (.tmp 29) (.tmp 30) 30 rfl el30 base (.slice tA tr.length tc) tr.length _ rfl (by exact HTK.out) rfl rfl (one_int _ _) (by omega) (by show base ≤ w.heap.size; omega) ?_; intro v1 w1 hown1 hg1 hat1; have HF1 := Lib.hid (cert_push hg (show CertAt (w.drewN m) _ _ _ _ _ _ _ from HB.out) HTK.out hown1 hg1); have hB1 := Blk.grown (w := w.drewN m) HB.out hg1 (own_blk_ne HTK.out HB.out (by decide)).symm; have d3 := hB1.cell 3; have k3 := hB1.frozen 3; simp at d3; obtain ⟨vA, vc, rfl, hvc⟩ := slice_of_own hown1; clear hown1 hat1 hB1 hg1)
    refine bodyPost_ret (results_none rfl _ _ _) rfl ?_
    exact ⟨rfl, HF1.out.1, (below_drewN (Below.refl _ _) m).trans HF1.out.2⟩
  | false =>
    rw [he] at HE
    obtain rfl : i = n := by rcases hb with h | h; (rw [he] at h; cases h); exact h
    clear he hb
    go_enter Try.func24, Try.ntmps24
    go_wp2_with fail
    refine HE.out.mono ?_
    rintro e w1 ⟨rfl, m, rfl⟩
    go_wp2_with (at_builtin; refine wpList_push _ _ rfl (.tmp 29) (.tmp 30) 30 rfl el30 base (.slice tA tr.length tc) tr.length _ rfl (by exact HTK.out) rfl rfl (one_int _ _) (by omega) (by show base ≤ w.heap.size; omega) ?_; intro v1 w1 hown1 hg1 hat1; have HF1 := Lib.hid (cert_push hg (show CertAt (w.drewN m) _ _ _ _ _ _ _ from HB.out) HTK.out hown1 hg1); have hB1 := Blk.grown (w := w.drewN m) HB.out hg1 (own_blk_ne HTK.out HB.out (by decide)).symm; have d3 := hB1.cell 3; have k3 := hB1.frozen 3; simp at d3; obtain ⟨vA, vc, rfl, hvc⟩ := slice_of_own hown1; clear hown1 hat1 hB1 hg1)
    refine bodyPost_ret (results_none rfl _ _ _) rfl ?_
    exact ⟨rfl, HF1.out.1, (below_drewN (Below.refl _ _) m).trans HF1.out.2⟩

set_option maxHeartbeats 1000000 in
theorem branch_full (g base : Nat) (A : Option Addr) (n c : Nat) (t best : Int) (i : Nat) (s : Int) (tr : List Int) (w : World) (hst : CertOwn w g base A n c t best tr) (hfull : 16384 < tr.length) :
    Calls Try.prog 24 #[.pointer (some ⟨g, 0, none⟩), .int .i64 i, .int .i64 s] w (BranchPost w g base A n c t best tr) := by
  have HST := Lib.hid hst
  obtain ⟨tv, hblk, htk⟩ := hst
  obtain ⟨tA, tc, rfl, htc⟩ := slice_of_own htk
  have c3 := hblk.cell 3
  simp at c3
  clear hblk htk
  go_enter Try.func24, Try.ntmps24
  go_wp2
  refine bodyPost_ret (results_none rfl _ _ _) rfl ?_
  exact ⟨rfl, HST.out, Below.refl _ _⟩

set_option maxHeartbeats 1000000 in
theorem branch_any (g base : Nat) (A : Option Addr) (n c : Nat) (zs : List Int) (t best : Int) (hg : base ≤ g) (hl : zs.length = n) (hc : n ≤ c) (hv : Vals zs) :
    ∀ (rest : List Int) (i : Nat) (s : Int) (tr : List Int) (w : World), rest = zs.drop i → i ≤ n → 0 ≤ s → s + rest.sum ≤ 33600000000000000 → CertOwn w g base A n c t best tr → Rd w base A (I64 zs) →
    Calls Try.prog 24 #[.pointer (some ⟨g, 0, none⟩), .int .i64 i, .int .i64 s] w (BranchPost w g base A n c t best (branchV t best rest s tr)) := by
  intro rest
  induction rest with
  | nil =>
    intro i s tr w hrest hi hs0 hs1 hst hr
    by_cases hfull : 16384 < tr.length
    · rw [branchV_full hfull]
      exact branch_full g base A n c t best i s tr w hst hfull
    · rw [branchV_nil hfull]
      have hin : i = n := by
        have h := congrArg List.length hrest
        simp at h
        omega
      exact branch_leave g base A n c zs t best hg hl hc hv i s tr w hi hs0 (by simp at hs1; omega) hst hr hfull (.inr hin)
  | cons z r ih =>
    intro i s tr w hrest hi hs0 hs1 hst hr
    have hrs : 0 ≤ (z :: r).sum := by
      rw [hrest]; exact sum_nonneg (fun x hx => hv.2 x (List.mem_of_mem_drop hx))
    by_cases hfull : 16384 < tr.length
    · rw [branchV_full hfull]
      exact branch_full g base A n c t best i s tr w hst hfull
    · cases hb : (decide (best ≤ s) || decide (s + (z :: r).sum < t)) with
      | true =>
        rw [branchV_ends hfull hb]
        exact branch_leave g base A n c zs t best hg hl hc hv i s tr w hi hs0 (by omega) hst hr hfull (.inl (by rw [endsB, ← hrest]; exact hb))
      | false =>
        rw [branchV_cons hfull hb]
        have hn : n ≤ 16 := by rw [← hl]; exact hv.1
        have HL := Lib.hid hl; clear hl
        have HV := Lib.hid hv; clear hv
        have IH := Lib.hid ih; clear ih
        have HEB := Lib.hid (show endsB zs t i s best = false by rw [endsB, ← hrest]; exact hb)
        have HRE := Lib.hid (drop_cons hrest); clear hrest hb
        have hin : i < n := by have := HRE.out.2.2; have := HL.out; omega
        have hz : Good z := HV.out.2 z (List.mem_of_getElem? HRE.out.1)
        have hrs' : 0 ≤ r.sum := sum_nonneg (fun x hx => HV.out.2 x (List.mem_of_mem_drop (by rw [← HRE.out.2.1]; exact hx)))
        simp only [List.sum_cons] at hs1 hrs
        unfold Good at hz
        have hd : ((i : Int) == (n : Int)) = false := by simp; omega
        have HRD := Lib.hid hr; clear hr
        obtain ⟨tv, hblk, htk⟩ := hst
        have HB := Lib.hid hblk; clear hblk
        have HTK := Lib.hid htk; clear htk
        obtain ⟨tA, tc, rfl, htc⟩ := slice_of_own HTK.out
        have c0 := HB.out.cell 0
        have c1 := HB.out.cell 1
        have c2 := HB.out.cell 2
        have c3 := HB.out.cell 3
        have f3 := HB.out.frozen 3
        simp at c0 c1 c2 c3
        have hgs := HB.out.lt
        have HE := Lib.hid (ends_any g A n c zs t (i : Int) s best (.slice tA tr.length tc) w base HB.out HRD.out HL.out hc HV.out (by omega) (by omega) hs0 (by omega))
        rw [Int.toNat_natCast, HEB.out] at HE
        obtain ⟨ad, hA, hadb, hcell⟩ := HRD.out.at_ (k := i) (u := .int .i64 z) (by simp [HRE.out.1])
        subst hA
        go_enter Try.func24, Try.ntmps24
        go_wp2_with fail
        refine HE.out.mono ?_
        rintro e w1 ⟨rfl, m, rfl⟩
        go_wp2_with (at_builtin; refine wpList_push _ _ rfl (.tmp 38) (.tmp 39) 30 rfl el30 base (.slice tA tr.length tc) tr.length _ rfl (by exact HTK.out) rfl rfl (one_int _ _) (by omega) (by show base ≤ w.heap.size; omega) ?_; intro v1 w1 hown1 hg1 hat1; have HF1 := Lib.hid (cert_push hg (show CertAt (w.drewN m) _ _ _ _ _ _ _ from HB.out) HTK.out hown1 hg1); have hB1 := Blk.grown (w := w.drewN m) HB.out hg1 (own_blk_ne HTK.out HB.out (by decide)).symm; have d3 := hB1.cell 3; have k3 := hB1.frozen 3; simp at d3; obtain ⟨vA, vc, rfl, hvc⟩ := slice_of_own hown1; have d0 := hB1.cell 0; simp at d0; have e1 := (HF1.out.2.cell (p := ad.add i) (by rw [block_of_add]; exact hadb)).trans (show (w.drewN m).cell? (ad.add i) = _ from hcell); clear hown1 hat1 hB1 hg1)
        rw [show ((i : Int) + 1) = ((i + 1 : Nat) : Int) from by omega]
        refine (IH.out (i + 1) (s + z) (tr ++ [1]) _ HRE.out.2.1 (by omega) (by omega) (by omega) HF1.out.1 ((HRD.out.drewN m).below HF1.out.2 (Nat.le_refl _))).mono ?_
        rintro e w2 ⟨rfl, hst2, hb2⟩
        have HB2 := Lib.hid (((below_drewN (Below.refl _ _) m).trans HF1.out.2).trans hb2)
        have HST2 := Lib.hid hst2
        clear hst2 hb2 c0 c1 c2 c3 d0 d3 k3 e1 f3 hcell
        generalize branchV t best r (s + z) (tr ++ [1]) = tr2 at *
        go_wp2_with fail
        rw [show ((i : Int) + 1) = ((i + 1 : Nat) : Int) from by omega]
        refine (IH.out (i + 1) s tr2 _ HRE.out.2.1 (by omega) (by omega) (by omega) HST2.out (HRD.out.below HB2.out (Nat.le_refl _))).mono ?_
        rintro e w3 ⟨rfl, hst3, hb3⟩
        have HF := Lib.hid (And.intro hst3 (HB2.out.trans hb3))
        clear hst3 hb3
        go_wp2
        refine bodyPost_end (results_none rfl _ _ _) rfl ?_
        exact ⟨rfl, HF.out.1, HF.out.2⟩
end Go.Proofs.Ytlajgdeoobmjjaa
