import Derived.Test.YtlajgdeoobmjjaaSmall
namespace Go.Proofs.Ytlajgdeoobmjjaa
open Go.RowKit

/-- what slices.Clone gives: a row of one's own -/
def ClonePost (w : World) (zs : List Int) (e : Ending) (w' : World) : Prop := ∃ v, e = .returned v ∧ w'.ownsRow w.heap.size 3 1 v zs.length (I64 zs) ∧ Below w.heap.size w w'

set_option maxHeartbeats 400000 in
theorem clone_any (A : Option Addr) (n c : Nat) (zs : List Int) (w : World) (B : Nat) (hB : B ≤ w.heap.size) (hr : Rd w B A (I64 zs)) (hl : zs.length = n) (hn : n ≤ 1000000) :
    Calls Try.prog 36 #[.slice A n c] w (ClonePost w zs) := by
  subst hl
  have hnil := fun w => Lib.run_eql_slice_nil (P := Try.prog) w 22 3 A zs.length c 0 0 Try.underlying22
  rcases A with _ | ad
  · have hz : zs = [] := by
      rcases zs with _ | ⟨u, r⟩
      · rfl
      · obtain ⟨ad, h, _⟩ := hr (by simp [I64])
        cases h
    subst hz
    clear hr
    simp only [List.length_nil, Option.isNone_none] at hnil hn ⊢
    go_enter Try.func36, Try.ntmps36
    go_wp2
    go_ret
    exact ⟨_, rfl, World.ownsRow_nil _ _ _ _, Below.refl _ _⟩
  · have HR := Lib.hid hr; clear hr
    go_enter Try.func36, Try.ntmps36
    go_wp2_with (at_builtin; refine wpList_pushAll _ rfl (.tmp 5) (.tmp 6) 22 rfl el22 w.heap.size (.slice (some ⟨w.heap.size, 0, none⟩) 0 0) 0 [] rfl (World.ownsRow_made w #[] 0 (Nat.le_refl _) (by decide) rfl) B _ _ _ (I64 zs) rfl (HR.out.alloc hB _) (by simp) (one_map _ (fun _ => rfl) _) (by omega) (by simp) ?_; intro v1 w1 h1 h2 h3)
    go_ret
    refine ⟨v1, rfl, by simpa using h1, ?_⟩
    exact ((Below.refl _ _).alloc (Nat.le_refl _) _).grown h2 (by simp) (by simp [Value.ownBlock])

/-- the search, plain: the rest of the values, the place, the sum, what is taken, the best so far -/
def visitV (t : Int) : List Int → Nat → Int → List Int → List Int × Int → List Int × Int
  | rest, i, sum, tl, b =>
    if t ≤ sum then (if b.1.length = 0 ∨ sum < b.2 then (tl, sum) else b)
    else match rest with
      | [] => b
      | z :: r => visitV t r (i + 1) sum tl (visitV t r (i + 1) (sum + z) (tl ++ [(i : Int)]) b)

def SearchAt (w : World) (g base : Nat) (A : Option Addr) (n c : Nat) (t : Int) (tl : List Int) (b : List Int × Int) : Prop :=
  ∃ tk bp, Blk w g 52 #[.slice A n c, .int .i64 t, tk, bp, .int .i64 b.2] ∧ w.ownsRow base 3 1 tk tl.length (I64 tl) ∧ w.ownsRow base 3 1 bp b.1.length (I64 b.1) ∧ (∀ k, tk.ownBlock = some k → bp.ownBlock ≠ some k)

def VisitPost (w : World) (g base : Nat) (A : Option Addr) (n c : Nat) (t : Int) (tl : List Int) (b : List Int × Int) (e : Ending) (w' : World) : Prop :=
  e = .returned (.tuple #[]) ∧ SearchAt w' g base A n c t tl b ∧ Below base w w'

theorem search_push {w w1 : World} {g base : Nat} {A : Option Addr} {n c : Nat} {t : Int} {tl : List Int} {b : List Int × Int} {tk bp v : Value} {x : Int} (hgb : base ≤ g) (hB : Blk w g 52 #[.slice A n c, .int .i64 t, tk, bp, .int .i64 b.2])
    (htk : w.ownsRow base 3 1 tk tl.length (I64 tl)) (hbp : w.ownsRow base 3 1 bp b.1.length (I64 b.1)) (hne : ∀ k, tk.ownBlock = some k → bp.ownBlock ≠ some k)
    (hown : w1.ownsRow base 3 1 v (tl.length + 1) (I64 tl ++ [.int .i64 x])) (hg1 : w.grownBy w1 tk.ownBlock) (hat : v.ownBlock = tk.ownBlock ∨ ∃ k, v.ownBlock = some k ∧ w.heap.size ≤ k) :
    SearchAt (w1.setCell ⟨g, 2, none⟩ v) g base A n c t (tl ++ [x]) b ∧ Below base w (w1.setCell ⟨g, 2, none⟩ v) := by
  have hB1 := hB.grown hg1 (own_blk_ne htk hB (by decide)).symm
  have hbase : base ≤ w.heap.size := Nat.le_trans hgb (Nat.le_of_lt hB.lt)
  have hbp1 := hbp.kept hg1 (by
    rcases h : tk.ownBlock with _ | k
    · rcases h2 : bp.ownBlock with _ | k2
      · exact .inl rfl
      · exact .inr (by simp)
    · exact .inr (hne k h))
  refine ⟨⟨v, bp, by simpa using hB1.set_ 2 v, ?_, own_setCell_far hbp1 hB1 (by decide) v, ?_⟩, ?_⟩
  · have := own_setCell_far (i := 2) hown hB1 (by decide) v
    simpa using this
  · intro k hk hk2
    rcases hat with h | ⟨k', h, hlt⟩
    · exact hne k (by rw [← h]; exact hk) hk2
    · have := (hbp.lt k hk2).2
      rw [h] at hk; injection hk with hk
      omega
  · exact ((Below.refl base w).grown hg1 hbase (fun k hk => (htk.lt k hk).1)).setCell (p := ⟨g, 2, none⟩) hgb v

theorem search_pop {w : World} {g base : Nat} {A : Option Addr} {n c : Nat} {t : Int} {tl : List Int} {x : Int} {b : List Int × Int} (hgb : base ≤ g) (h : SearchAt w g base A n c t (tl ++ [x]) b) :
    ∃ ad tc bp, Blk w g 52 #[.slice A n c, .int .i64 t, .slice (some ad) (tl.length + 1) tc, bp, .int .i64 b.2] ∧ tl.length + 1 ≤ tc ∧
      SearchAt (w.setCell ⟨g, 2, none⟩ (.slice (some ad) tl.length tc)).drew g base A n c t tl b ∧ Below base w (w.setCell ⟨g, 2, none⟩ (.slice (some ad) tl.length tc)).drew := by
  obtain ⟨tk, bp, hB, htk, hbp, hne⟩ := h
  simp only [List.length_append, List.length_cons, List.length_nil, Nat.zero_add] at htk
  obtain ⟨k, tc, rfl, hk, hlt⟩ := htk.form (by omega)
  have htc : tl.length + 1 ≤ tc := by
    rcases htk.2 with ⟨h, _⟩ | ⟨_, _, _, h, _, _, h2, _⟩
    · cases h
    · cases h; exact h2
  have hpop := ownsRow_pop (size := 1) (xs := I64 tl) (last := [.int .i64 x]) (n := tl.length) (by simp) (by simpa [I64] using htk)
  refine ⟨⟨k, 0, none⟩, tc, bp, hB, htc, ⟨.slice (some ⟨k, 0, none⟩) tl.length tc, bp, by simpa using (hB.set_ 2 (.slice (some ⟨k, 0, none⟩) tl.length tc)).drew, own_setCell_far hpop hB (by decide) _, own_setCell_far hbp hB (by decide) _, ?_⟩, ?_⟩
  · intro k' hk'
    exact hne k' (by simpa [Value.ownBlock] using hk')
  · exact ((Below.refl base w).setCell (p := ⟨g, 2, none⟩) hgb _).drew

theorem search_best {w w1 : World} {g base : Nat} {A : Option Addr} {n c : Nat} {t : Int} {tl : List Int} {b : List Int × Int} {tk bp v : Value} {s : Int} (hgb : base ≤ g) (hB : Blk w g 52 #[.slice A n c, .int .i64 t, tk, bp, .int .i64 b.2])
    (htk : w.ownsRow base 3 1 tk tl.length (I64 tl)) (hown : w1.ownsRow w.heap.size 3 1 v tl.length (I64 tl)) (hb1 : Below w.heap.size w w1) :
    SearchAt ((w1.setCell ⟨g, 3, none⟩ v).setCell ⟨g, 4, none⟩ (.int .i64 s)) g base A n c t tl (tl, s) ∧ Below base w ((w1.setCell ⟨g, 3, none⟩ v).setCell ⟨g, 4, none⟩ (.int .i64 s)) := by
  have hB1 := hB.below hb1 hB.lt
  have hbase : base ≤ w.heap.size := Nat.le_trans hgb (Nat.le_of_lt hB.lt)
  have htk1 := htk.kept (only_of_below hb1 none) (by rcases h : tk.ownBlock with _ | k <;> simp)
  have hB2 := hB1.set_ 3 v
  have hown' : w1.ownsRow base 3 1 v tl.length (I64 tl) := by
    obtain ⟨h1, h2⟩ := hown
    refine ⟨h1, ?_⟩
    rcases h2 with h2 | ⟨k, cap, cur, hv, hk, r⟩
    · exact .inl h2
    · exact .inr ⟨k, cap, cur, hv, by omega, r⟩
  refine ⟨⟨tk, v, by simpa using hB2.set_ 4 (.int .i64 s), own_setCell_far (own_setCell_far htk1 hB1 (by decide) _) hB2 (by decide) _, own_setCell_far (own_setCell_far hown' hB1 (by decide) _) hB2 (by decide) _, ?_⟩, ?_⟩
  · intro k hk hk2
    have := (htk.lt k hk).2
    have := (hown.lt k hk2).1
    omega
  · exact ((hb1.mono hbase).setCell (p := ⟨g, 3, none⟩) hgb v).setCell (p := ⟨g, 4, none⟩) hgb _


theorem drop_cons {zs r : List Int} {z : Int} {i : Nat} (h : z :: r = zs.drop i) : zs[i]? = some z ∧ r = zs.drop (i + 1) ∧ i < zs.length := by
  have h1 : (zs.drop i)[0]? = some z := by rw [← h]; rfl
  rw [List.getElem?_drop] at h1
  refine ⟨by simpa using h1, ?_, ?_⟩
  · rw [← List.drop_drop, ← h]; rfl
  · have h2 : 0 < (zs.drop i).length := by rw [← h]; simp
    simp at h2; omega
theorem sum_nonneg {l : List Int} (h : ∀ z ∈ l, Good z) : 0 ≤ l.sum := by
  have := sum_bd l h l.length
  simpa using this.1

theorem visitV_leaf_set {t : Int} {rest : List Int} {i : Nat} {sum : Int} {tl : List Int} {b : List Int × Int} (h : t ≤ sum) (hs : b.1.length = 0 ∨ sum < b.2) : visitV t rest i sum tl b = (tl, sum) := by
  unfold visitV; rw [if_pos h, if_pos hs]
theorem visitV_leaf_keep {t : Int} {rest : List Int} {i : Nat} {sum : Int} {tl : List Int} {b : List Int × Int} (h : t ≤ sum) (hs : ¬ (b.1.length = 0 ∨ sum < b.2)) : visitV t rest i sum tl b = b := by
  unfold visitV; rw [if_pos h, if_neg hs]
theorem visitV_nil {t : Int} {i : Nat} {sum : Int} {tl : List Int} {b : List Int × Int} (h : ¬ t ≤ sum) : visitV t [] i sum tl b = b := by
  unfold visitV; rw [if_neg h]
theorem visitV_cons {t z : Int} {r : List Int} {i : Nat} {sum : Int} {tl : List Int} {b : List Int × Int} (h : ¬ t ≤ sum) :
    visitV t (z :: r) i sum tl b = visitV t r (i + 1) sum tl (visitV t r (i + 1) (sum + z) (tl ++ [(i : Int)]) b) := by
  rw [visitV, if_neg h]

set_option maxHeartbeats 1000000 in
theorem visit_leaf (g base : Nat) (A : Option Addr) (n c : Nat) (t : Int) (hg : base ≤ g) (rest : List Int) (i : Nat) (sum : Int) (tl : List Int) (b : List Int × Int) (w : World) (hts : t ≤ sum) (htl : tl.length ≤ 16) (hst : SearchAt w g base A n c t tl b) :
    Calls Try.prog 23 #[.pointer (some ⟨g, 0, none⟩), .int .i64 i, .int .i64 sum] w (VisitPost w g base A n c t tl (visitV t rest i sum tl b)) := by
  obtain ⟨tk, bp, hblk, htk, hbp, hne⟩ := hst
  have HB := Lib.hid hblk; clear hblk
  have HTK := Lib.hid htk; clear htk
  have HBP := Lib.hid hbp; clear hbp
  have HNE := Lib.hid hne; clear hne
  have c1 := HB.out.cell 1
  have c2 := HB.out.cell 2
  have c3 := HB.out.cell 3
  have c4 := HB.out.cell 4
  simp at c1 c2 c3 c4
  obtain ⟨bA, bc, rfl, hbc⟩ := slice_of_own HBP.out
  obtain ⟨tA, tc, rfl, htc⟩ := slice_of_own HTK.out
  by_cases hset : b.1.length = 0 ∨ sum < b.2
  · rw [visitV_leaf_set hts hset]
    have hgs := HB.out.lt
    by_cases hb0 : b.1.length = 0
    · have hd : ((b.1.length : Int) == 0) = true := by simp [hb0]
      clear hset hb0
      go_enter Try.func23, Try.ntmps23
      go_wp2_with fail
      refine (clone_any tA tl.length tc tl w w.heap.size (Nat.le_refl _) (Rd.of_own HTK.out) rfl (by omega)).mono ?_
      rintro e w1 ⟨v, rfl, hown, hb1⟩
      have HF := Lib.hid (search_best (s := sum) hg HB.out HTK.out hown hb1)
      have d3 : w1.cell? ⟨g, 3, none⟩ = some (.slice bA b.1.length bc) := (hb1.cell (p := ⟨g, 3, none⟩) hgs).trans c3
      have d4 : w1.cell? ⟨g, 4, none⟩ = some (.int .i64 b.2) := (hb1.cell (p := ⟨g, 4, none⟩) hgs).trans c4
      have k3 : w1.frozen? ⟨g, 3, none⟩ = false := (hb1.frozen (p := ⟨g, 3, none⟩) hgs).trans (HB.out.frozen 3)
      have k4 : w1.frozen? ⟨g, 4, none⟩ = false := (hb1.frozen (p := ⟨g, 4, none⟩) hgs).trans (HB.out.frozen 4)
      obtain ⟨vA, vc, rfl, hvc⟩ := slice_of_own hown
      clear hown hb1
      go_wp2
      refine bodyPost_ret (results_none rfl _ _ _) rfl ?_
      exact ⟨rfl, HF.out.1, HF.out.2⟩
    · have hd : ((b.1.length : Int) == 0) = false := by simp; intro h; exact hb0 (by simp [h])
      have hlt : sum < b.2 := by omega
      clear hset hb0
      go_enter Try.func23, Try.ntmps23
      go_wp2_with fail
      refine (clone_any tA tl.length tc tl w w.heap.size (Nat.le_refl _) (Rd.of_own HTK.out) rfl (by omega)).mono ?_
      rintro e w1 ⟨v, rfl, hown, hb1⟩
      have HF := Lib.hid (search_best (s := sum) hg HB.out HTK.out hown hb1)
      have d3 : w1.cell? ⟨g, 3, none⟩ = some (.slice bA b.1.length bc) := (hb1.cell (p := ⟨g, 3, none⟩) hgs).trans c3
      have d4 : w1.cell? ⟨g, 4, none⟩ = some (.int .i64 b.2) := (hb1.cell (p := ⟨g, 4, none⟩) hgs).trans c4
      have k3 : w1.frozen? ⟨g, 3, none⟩ = false := (hb1.frozen (p := ⟨g, 3, none⟩) hgs).trans (HB.out.frozen 3)
      have k4 : w1.frozen? ⟨g, 4, none⟩ = false := (hb1.frozen (p := ⟨g, 4, none⟩) hgs).trans (HB.out.frozen 4)
      obtain ⟨vA, vc, rfl, hvc⟩ := slice_of_own hown
      clear hown hb1
      go_wp2
      refine bodyPost_ret (results_none rfl _ _ _) rfl ?_
      exact ⟨rfl, HF.out.1, HF.out.2⟩
  · rw [visitV_leaf_keep hts hset]
    have hd : ((b.1.length : Int) == 0) = false := by simp; intro h; exact hset (.inl (by simp [h]))
    have hd2 : ¬ sum < b.2 := fun h => hset (.inr h)
    clear hset
    go_enter Try.func23, Try.ntmps23
    go_wp2
    refine bodyPost_ret (results_none rfl _ _ _) rfl ?_
    exact ⟨rfl, ⟨_, _, HB.out, HTK.out, HBP.out, HNE.out⟩, Below.refl _ _⟩

set_option maxHeartbeats 1000000 in
theorem visit_any (g base : Nat) (A : Option Addr) (n c : Nat) (zs : List Int) (t : Int) (hg : base ≤ g) (hl : zs.length = n) (hv : Vals zs) :
    ∀ (rest : List Int) (i : Nat) (sum : Int) (tl : List Int) (b : List Int × Int) (w : World), rest = zs.drop i → i ≤ n → 0 ≤ sum → sum + rest.sum ≤ 33600000000000000 → tl.length ≤ i → SearchAt w g base A n c t tl b → Rd w base A (I64 zs) →
    Calls Try.prog 23 #[.pointer (some ⟨g, 0, none⟩), .int .i64 i, .int .i64 sum] w (VisitPost w g base A n c t tl (visitV t rest i sum tl b)) := by
  have hn : n ≤ 16 := by rw [← hl]; exact hv.1
  have HL := Lib.hid hl; clear hl
  have HV := Lib.hid hv; clear hv
  intro rest
  induction rest with
  | nil =>
    intro i sum tl b w hrest hi hs0 hs1 htl hst hr
    by_cases hts : t ≤ sum
    · exact visit_leaf g base A n c t hg [] i sum tl b w hts (by omega) hst
    · rw [visitV_nil hts]
      have hin : i = n := by
        have h := congrArg List.length hrest
        simp at h
        have := HL.out
        omega
      subst hin
      have HST := Lib.hid hst
      obtain ⟨tk, bp, hblk, htk, hbp, hne⟩ := hst
      have c0 := hblk.cell 0
      have c1 := hblk.cell 1
      simp at c0 c1
      clear hblk htk hbp hne hrest hr
      go_enter Try.func23, Try.ntmps23
      go_wp2
      refine bodyPost_ret (results_none rfl _ _ _) rfl ?_
      exact ⟨rfl, HST.out, Below.refl _ _⟩
  | cons z r ih =>
    intro i sum tl b w hrest hi hs0 hs1 htl hst hr
    by_cases hts : t ≤ sum
    · exact visit_leaf g base A n c t hg (z :: r) i sum tl b w hts (by omega) hst
    · rw [visitV_cons hts]
      have IH := Lib.hid ih; clear ih
      have HRD := Lib.hid hr; clear hr
      have HRE := Lib.hid (drop_cons hrest); clear hrest
      obtain ⟨tk, bp, hblk, htk, hbp, hne⟩ := hst
      have HB := Lib.hid hblk; clear hblk
      have HTK := Lib.hid htk; clear htk
      have HBP := Lib.hid hbp; clear hbp
      have HNE := Lib.hid hne; clear hne
      have hin : i < n := by have := HRE.out.2.2; have := HL.out; omega
      have hz : Good z := HV.out.2 z (List.mem_of_getElem? HRE.out.1)
      have hrs : 0 ≤ r.sum := sum_nonneg (fun x hx => HV.out.2 x (List.mem_of_mem_drop (by rw [← HRE.out.2.1]; exact hx)))
      simp only [List.sum_cons] at hs1
      unfold Good at hz
      have c0 := HB.out.cell 0
      have c1 := HB.out.cell 1
      have c2 := HB.out.cell 2
      have f2 := HB.out.frozen 2
      simp at c0 c1 c2
      have hgs := HB.out.lt
      have hd : ((i : Int) == (n : Int)) = false := by simp; omega
      obtain ⟨ad, hA, hadb, hcell⟩ := HRD.out.at_ (k := i) (u := .int .i64 z) (by simp [HRE.out.1])
      subst hA
      obtain ⟨tA, tc, rfl, htc⟩ := slice_of_own HTK.out
      go_enter Try.func23, Try.ntmps23
      go_wp2_with (at_builtin; refine wpList_push _ _ rfl (.tmp 49) (.tmp 51) 22 rfl el22 base (.slice tA tl.length tc) tl.length _ rfl HTK.out rfl rfl (one_int _ _) (by omega) (by omega) ?_; intro v1 w1 hown1 hg1 hat1; have HF1 := Lib.hid (search_push hg HB.out HTK.out HBP.out HNE.out hown1 hg1 hat1); have hB1 := HB.out.grown hg1 (own_blk_ne HTK.out HB.out (by decide)).symm; have d2 := hB1.cell 2; have k2 := hB1.frozen 2; simp at d2; obtain ⟨vA, vc, rfl, hvc⟩ := slice_of_own hown1; have d0 := hB1.cell 0; simp at d0; have e1 := (HF1.out.2.cell (p := ad.add i) (by rw [block_of_add]; exact hadb)).trans hcell; clear hown1 hat1 hB1 hg1)
      rw [show ((i : Int) + 1) = ((i + 1 : Nat) : Int) from by omega]
      refine (IH.out (i + 1) (sum + z) (tl ++ [(i : Int)]) b _ HRE.out.2.1 (by omega) (by omega) (by omega) (by simp; omega) HF1.out.1 (HRD.out.below HF1.out.2 (Nat.le_refl _))).mono ?_
      rintro e w2 ⟨rfl, hst2, hb2⟩
      obtain ⟨ad2, tc2, bp2, hB2, htc2, hst3, hb3⟩ := search_pop hg hst2
      clear hst2 d0 d2 k2 e1
      have c2' := hB2.cell 2
      have k2' := hB2.frozen 2
      simp at c2'
      have hbz : Below base w w2 := HF1.out.2.trans hb2
      have HST3 := Lib.hid hst3; clear hst3
      have HB3 := Lib.hid (hbz.trans hb3)
      clear hb2 hb3 hbz hB2 c0 c1 c2 f2 hcell
      generalize visitV t r (i + 1) (sum + z) (tl ++ [(i : Int)]) b = b2 at *
      go_wp2_with fail
      go_region
      go_wp2_with fail
      rw [show ((i : Int) + 1) = ((i + 1 : Nat) : Int) from by omega]
      refine (IH.out (i + 1) sum tl b2 _ HRE.out.2.1 (by omega) (by omega) (by omega) (by omega) HST3.out (HRD.out.below HB3.out (Nat.le_refl _))).mono ?_
      rintro e w3 ⟨rfl, hst4, hb4⟩
      have HF := Lib.hid (And.intro hst4 (HB3.out.trans hb4))
      clear hst4 hb4
      go_wp2
      refine bodyPost_end (results_none rfl _ _ _) rfl ?_
      exact ⟨rfl, HF.out.1, HF.out.2⟩
end Go.Proofs.Ytlajgdeoobmjjaa
