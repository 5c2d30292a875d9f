import Derived.Test.YtlajgdeoobmjjaaBranch
namespace Go.Proofs.Ytlajgdeoobmjjaa
open Go.RowKit

def leastV (t : Int) : List Int → Int → Int → Int
  | rest, s, best =>
    if t ≤ s then min s best
    else if decide (best ≤ s) || decide (s + rest.sum < t) then best
    else match rest with
      | [] => best
      | z :: r => leastV t r s (leastV t r (s + z) best)

theorem leastV_hit {t : Int} {rest : List Int} {s best : Int} (h : t ≤ s) : leastV t rest s best = min s best := by
  unfold leastV; rw [if_pos h]
theorem leastV_ends {t : Int} {rest : List Int} {s best : Int} (h : ¬ t ≤ s) (he : (decide (best ≤ s) || decide (s + rest.sum < t)) = true) : leastV t rest s best = best := by
  unfold leastV; rw [if_neg h, if_pos he]
theorem leastV_cons {t z : Int} {r : List Int} {s best : Int} (h : ¬ t ≤ s) (he : (decide (best ≤ s) || decide (s + (z :: r).sum < t)) = false) :
    leastV t (z :: r) s best = leastV t r s (leastV t r (s + z) best) := by
  rw [leastV, if_neg h, he]; simp

set_option maxHeartbeats 1000000 in
theorem least_any (t : Int) :
    ∀ (zs : List Int) (A : Option Addr) (n c : Nat) (s best : Int) (w : World) (B : Nat), zs.length = n → n ≤ c → Vals zs → 0 ≤ s → s + zs.sum ≤ 33600000000000000 → Rd w B A (I64 zs) →
    Calls Try.prog 27 #[.slice A n c, .int .i64 t, .int .i64 s, .int .i64 best] w fun e w' => e = .returned (.int .i64 (leastV t zs s best)) ∧ ∃ m, w' = w.drewN m := by
  intro zs
  induction zs with
  | nil =>
    intro A n c s best w B hl hc hv hs0 hs1 hr
    simp at hl
    subst hl
    simp only [List.sum_nil] at hs1
    by_cases hts : t ≤ s
    · rw [leastV_hit hts]
      by_cases hm : s ≤ best
      all_goals
        go_enter Try.func27, Try.ntmps27
        go_wp2
        go_ret
        exact ⟨ret_int (by show _ = _; omega), 0, rfl⟩
    · have he : (decide (best ≤ s) || decide (s + ([] : List Int).sum < t)) = true := by simp; omega
      rw [leastV_ends hts he]
      clear he
      by_cases hb : best ≤ s
      · go_enter Try.func27, Try.ntmps27
        go_wp2
        go_ret
        exact ⟨rfl, 0, rfl⟩
      · go_enter Try.func27, Try.ntmps27
        go_wp2_with fail
        refine (sum_any _ _ _ [] w B (Rd.nil) rfl ⟨by simp, by simp⟩).mono ?_
        rintro e w1 ⟨rfl, rfl⟩
        have hx : s + ([] : List Int).sum < t := by simp; omega
        simp at hx
        simp only [List.sum_nil]
        go_wp2
        go_ret
        exact ⟨rfl, 0, rfl⟩
  | cons z r ih =>
    intro A n c s best w B hl hc hv hs0 hs1 hr
    by_cases hts : t ≤ s
    · rw [leastV_hit hts]
      clear hr ih
      by_cases hm : s ≤ best
      all_goals
        go_enter Try.func27, Try.ntmps27
        go_wp2
        go_ret
        exact ⟨ret_int (by show _ = _; omega), 0, rfl⟩
    · have HS := Lib.hid (sum_any A n c (z :: r) w B hr hl hv)
      have hsum := sum_bd' _ hv
      have hz : Good z := hv.2 z (by simp)
      have hvr : Vals r := ⟨by have := hv.1; simp at this; omega, fun x hx => hv.2 x (by simp [hx])⟩
      have hsr := sum_bd' _ hvr
      have HVR := Lib.hid hvr
      clear hv hvr
      unfold Good at hz
      simp only [List.sum_cons] at hs1 hsum
      by_cases hb : best ≤ s
      · have he : (decide (best ≤ s) || decide (s + (z :: r).sum < t)) = true := by rw [decide_eq_true hb]; rfl
        rw [leastV_ends hts he]
        clear he hr ih
        go_enter Try.func27, Try.ntmps27
        go_wp2
        go_ret
        exact ⟨rfl, 0, rfl⟩
      · by_cases hx : s + (z + r.sum) < t
        · have he : (decide (best ≤ s) || decide (s + (z :: r).sum < t)) = true := by rw [decide_eq_true (show s + (z :: r).sum < t by simpa using hx)]; simp
          rw [leastV_ends hts he]
          clear he hr ih
          go_enter Try.func27, Try.ntmps27
          go_wp2_with fail
          refine HS.out.mono ?_
          rintro e w1 ⟨rfl, rfl⟩
          simp only [List.sum_cons]
          go_wp2
          go_ret
          exact ⟨rfl, 0, rfl⟩
        · have he : (decide (best ≤ s) || decide (s + (z :: r).sum < t)) = false := by simp [hb, hx]
          rw [leastV_cons hts he]
          clear he
          have IH := Lib.hid ih; clear ih
          have hn1 : 1 ≤ n := by simp at hl; omega
          have HL := Lib.hid (show r.length = n - 1 by simp at hl; omega)
          have HRC := Lib.hid (hr.cut1 (k := 1) (c := c) (by omega))
          obtain ⟨ad, rfl, hadb, hcell⟩ := hr.at_ (k := 0) (u := .int .i64 z) (by simp)
          have hcut := run_cut el23 (some ad) n c (1 : Int) (by omega) (by omega)
          simp only [show (1 : Int).toNat = 1 from rfl] at hcut
          clear hr hl
          have hcell0 : w.cell? ad = some (.int .i64 z) := by simpa [Addr.add] using hcell
          go_enter Try.func27, Try.ntmps27
          go_wp2_with fail
          refine HS.out.mono ?_
          rintro e w1 ⟨rfl, rfl⟩
          simp only [List.sum_cons]
          go_wp2_with fail
          go_quiet ((go_at_call 27; exact Calls.quiet_of (IH.out _ _ _ _ _ _ B HL.out (by omega) HVR.out (by omega) (by omega) (HRC.out.drewN _))))
          have e2 : ∀ k, (w.drewN k).cell? ad = some (.int .i64 z) := fun _ => hcell0
          clear hcell0 hcell HS
          generalize hb2 : leastV t r (s + z) best = b2 at *
          have HB2 := Lib.hid hb2; clear hb2
          go_wp2_with fail
          refine (IH.out _ _ _ _ _ _ B HL.out (by omega) HVR.out (by omega) (by omega) (HRC.out.drewN _)).mono ?_
          rintro e w2 ⟨rfl, m, rfl⟩
          go_wp2
          go_ret
          rw [HB2.out]
          exact ⟨rfl, _, rfl⟩

def placesV : List Int → Nat → Int → Option (List Int)
  | rest, i, left =>
    if left = 0 then some []
    else match rest with
      | [] => none
      | z :: r => if left < 0 ∨ (z :: r).sum < left then none
        else match placesV r (i + 1) (left - z) with
          | some l => some ((i : Int) :: l)
          | none => placesV r (i + 1) left

theorem placesV_zero {rest : List Int} {i : Nat} : placesV rest i 0 = some [] := by unfold placesV; simp
theorem placesV_nil {i : Nat} {left : Int} (h : left ≠ 0) : placesV [] i left = none := by unfold placesV; simp [h]
theorem placesV_out {z : Int} {r : List Int} {i : Nat} {left : Int} (h : left ≠ 0) (h2 : left < 0 ∨ (z :: r).sum < left) : placesV (z :: r) i left = none := by
  rw [placesV, if_neg h, if_pos h2]
theorem placesV_take {z : Int} {r l : List Int} {i : Nat} {left : Int} (h : left ≠ 0) (h2 : ¬ (left < 0 ∨ (z :: r).sum < left)) (h3 : placesV r (i + 1) (left - z) = some l) : placesV (z :: r) i left = some ((i : Int) :: l) := by
  rw [placesV, if_neg h, if_neg h2, h3]
theorem placesV_skip {z : Int} {r : List Int} {i : Nat} {left : Int} (h : left ≠ 0) (h2 : ¬ (left < 0 ∨ (z :: r).sum < left)) (h3 : placesV r (i + 1) (left - z) = none) : placesV (z :: r) i left = placesV r (i + 1) left := by
  rw [placesV, if_neg h, if_neg h2, h3]
theorem placesV_len : ∀ (rest : List Int) (i : Nat) (left : Int) (l : List Int), placesV rest i left = some l → l.length ≤ rest.length := by
  intro rest
  induction rest with
  | nil =>
    intro i left l h
    by_cases h0 : left = 0
    · subst h0; rw [placesV_zero] at h; cases h; simp
    · rw [placesV_nil h0] at h; cases h
  | cons z r ih =>
    intro i left l h
    by_cases h0 : left = 0
    · subst h0; rw [placesV_zero] at h; cases h; simp
    · by_cases h2 : left < 0 ∨ (z :: r).sum < left
      · rw [placesV_out h0 h2] at h; cases h
      · rcases h3 : placesV r (i + 1) (left - z) with _ | l'
        · rw [placesV_skip h0 h2 h3] at h
          have := ih _ _ _ h
          simp; omega
        · rw [placesV_take h0 h2 h3] at h
          have := ih _ _ _ h3
          cases h
          simp; omega

def PlacesPost (w : World) (r : Option (List Int)) (e : Ending) (w' : World) : Prop :=
  ∃ v, e = .returned (.tuple #[v, .bool r.isSome]) ∧ w'.ownsRow w.heap.size 3 1 v (r.getD []).length (I64 (r.getD [])) ∧ Below w.heap.size w w'

set_option maxHeartbeats 1000000 in
theorem places_any (A : Option Addr) (n c : Nat) (zs : List Int) (hl : zs.length = n) (hc : n ≤ c) (hv : Vals zs) :
    ∀ (rest : List Int) (i : Nat) (left : Int) (w : World) (B : Nat), rest = zs.drop i → i ≤ n → -33600000000000000 ≤ left → left ≤ 33600000000000000 → Rd w B A (I64 zs) → B ≤ w.heap.size →
    Calls Try.prog 28 #[.slice A n c, .int .i64 i, .int .i64 left] w (PlacesPost w (placesV rest i left)) := by
  have hn : n ≤ 16 := by rw [← hl]; exact hv.1
  have HL := Lib.hid hl; clear hl
  have HV := Lib.hid hv; clear hv
  intro rest
  induction rest with
  | nil =>
    intro i left w B hrest hi h0 h1 hr hB
    have hin : i = n := by
      have h := congrArg List.length hrest
      simp at h
      have := HL.out
      omega
    subst hin
    clear hr hrest
    by_cases hz : left = 0
    · subst hz
      rw [placesV_zero]
      go_enter Try.func28, Try.ntmps28
      go_wp2
      go_ret2
      exact ⟨_, rfl, World.ownsRow_nil _ _ _ _, Below.refl _ _⟩
    · rw [placesV_nil hz]
      have hd : (left == 0) = false := by simpa using hz
      clear hz
      go_enter Try.func28, Try.ntmps28
      go_wp2
      go_ret2
      exact ⟨_, rfl, World.ownsRow_nil _ _ _ _, Below.refl _ _⟩
  | cons z r ih =>
    intro i left w B hrest hi h0 h1 hr hB
    have IH := Lib.hid ih; clear ih
    by_cases hz : left = 0
    · subst hz
      rw [placesV_zero]
      clear hr hrest
      go_enter Try.func28, Try.ntmps28
      go_wp2
      go_ret2
      exact ⟨_, rfl, World.ownsRow_nil _ _ _ _, Below.refl _ _⟩
    · have hd : (left == 0) = false := by simpa using hz
      have HRC := Lib.hid (hr.cut1 (k := i) (c := c) (by rw [HL.out]; exact hc))
      have hcut := run_cut el23 A n c (i : Int) (by omega) (by omega)
      simp only [Int.toNat_natCast] at hcut
      have hsum := sum_bd' _ (vals_drop HV.out i)
      have HS := Lib.hid (sum_any _ (n - i) (c - i) (zs.drop i) w B HRC.out (by rw [List.length_drop, HL.out]) (vals_drop HV.out i))
      have HRE := Lib.hid (drop_cons hrest)
      rw [← hrest] at hsum HS
      clear hrest
      have hin : i < n := by have := HRE.out.2.2; have := HL.out; omega
      have HRD := Lib.hid hr; clear hr
      have hzg : Good z := HV.out.2 z (List.mem_of_getElem? HRE.out.1)
      unfold Good at hzg
      by_cases hneg : left < 0
      · rw [placesV_out hz (.inl hneg)]
        clear hz
        go_enter Try.func28, Try.ntmps28
        go_wp2
        go_ret2
        exact ⟨_, rfl, World.ownsRow_nil _ _ _ _, Below.refl _ _⟩
      · by_cases hbig : (z :: r).sum < left
        · rw [placesV_out hz (.inr hbig)]
          clear hz
          generalize (z :: r).sum = sm at *
          go_enter Try.func28, Try.ntmps28
          go_wp2_with fail
          refine HS.out.mono ?_
          rintro e w1 ⟨rfl, rfl⟩
          go_wp2
          go_ret2
          exact ⟨_, rfl, World.ownsRow_nil _ _ _ _, Below.refl _ _⟩
        · have hno : ¬ (left < 0 ∨ (z :: r).sum < left) := by omega
          have HTK := Lib.hid (fun l => placesV_take (l := l) (i := i) hz hno)
          have HSK := Lib.hid (placesV_skip (i := i) hz hno)
          clear hz hno
          generalize (z :: r).sum = sm at *
          obtain ⟨ad, hA, hadb, hcell⟩ := HRD.out.at_ (k := i) (u := .int .i64 z) (by simp [HRE.out.1])
          subst hA
          go_enter Try.func28, Try.ntmps28
          go_wp2_with fail
          refine HS.out.mono ?_
          rintro e w1 ⟨rfl, rfl⟩
          go_wp2_with fail
          rw [show ((i : Int) + 1) = ((i + 1 : Nat) : Int) from by omega]
          refine (IH.out (i + 1) (left - z) w B HRE.out.2.1 (by omega) (by omega) (by omega) HRD.out hB).mono ?_
          rintro e w2 ⟨v, rfl, hown, hb⟩
          have HLEN := Lib.hid (placesV_len r (i + 1) (left - z))
          rcases hp : placesV r (i + 1) (left - z) with _ | l
          · rw [hp] at hown
            have HK := Lib.hid (HSK.out hp)
            have hsz := hb.size
            simp only [Option.getD_none] at hown
            obtain ⟨vA, vc, rfl, hvc⟩ := slice_of_own hown
            clear hp hown hcell hcut
            simp only [Option.isSome_none]
            go_wp2_with fail
            rw [show ((i : Int) + 1) = ((i + 1 : Nat) : Int) from by omega]
            refine (IH.out (i + 1) left w2 B HRE.out.2.1 (by omega) (by omega) (by omega) (HRD.out.below hb hB) (by omega)).mono ?_
            rintro e w3 ⟨v3, rfl, hown3, hb3⟩
            have HF := Lib.hid (And.intro (own_more hown3 hsz) (hb.trans (hb3.mono hsz)))
            clear hown3 hb3
            go_wp2
            go_ret2
            rw [HK.out]
            exact ⟨v3, rfl, HF.out.1, HF.out.2⟩
          · rw [hp] at hown
            have HK := Lib.hid (HTK.out l hp)
            have hll := HLEN.out l hp
            have hrl : r.length ≤ 16 := by rw [HRE.out.2.1, List.length_drop, HL.out]; omega
            have hsz := hb.size
            clear hp hcell hcut
            simp only [Option.isSome_some, Option.getD_some] at hown ⊢
            obtain ⟨vA, vc, rfl, hvc⟩ := slice_of_own hown
            have HR := Lib.hid (Rd.of_own hown)
            clear hown
            go_wp2_with (at_builtin; refine wpList_pushAll _ rfl (.tmp 43) (.tmp 44) 22 rfl el22 w.heap.size (.slice (some ⟨w2.heap.size, 0, none⟩) 1 1) 1 [.int .i64 i] rfl (own_lit w2 w.heap.size 3 1 1 #[.int .i64 i] hsz rfl (by decide)) w2.heap.size _ _ _ (I64 l) rfl (HR.out.alloc (Nat.le_refl _) _) (by simp) (one_map _ (fun _ => rfl) _) (by omega) (by simp; omega) ?_; intro v4 w4 hown4 hg4 hat4)
            have hb4 : Below w.heap.size w w4 := (hb.alloc hsz _).grown hg4 (by simp; omega) (by simp [Value.ownBlock]; omega)
            have HF := Lib.hid (And.intro hown4 hb4)
            clear hown4 hg4 hat4 hb4
            go_wp2
            go_ret2
            rw [HK.out]
            refine ⟨v4, rfl, ?_, HF.out.2⟩
            have := HF.out.1
            simpa [Nat.add_comm] using this

/-- no sum that is enough is less than best -/
def NoLess (t best : Int) : List Int → Int → Prop
  | [], s => best ≤ s ∨ s < t
  | z :: r, s => NoLess t best r (s + z) ∧ NoLess t best r s

def TracePost (w : World) (base : Nat) (tr : List Int) (e : Ending) (w' : World) : Prop :=
  ∃ v, e = .returned v ∧ w'.ownsRow base 5 1 v tr.length (U8 tr) ∧ Below base w w'

set_option maxHeartbeats 1000000 in
theorem trace_leave (base : Nat) (A : Option Addr) (n c : Nat) (zs : List Int) (t best : Int) (hl : zs.length = n) (hc : n ≤ c) (hv : Vals zs)
    (i : Nat) (s : Int) (tr : List Int) (v : Value) (w : World) (hi : i ≤ n) (hs0 : 0 ≤ s) (hs1 : s ≤ 33600000000000000) (hst : w.ownsRow base 5 1 v tr.length (U8 tr)) (hB : base ≤ w.heap.size) (hr : Rd w base A (I64 zs)) (hfull : ¬ 16384 < tr.length)
    (hb : endsB zs t i s best = true) :
    Calls Try.prog 29 #[.slice A n c, .int .i64 t, .int .i64 i, .int .i64 s, .int .i64 best, v] w (TracePost w base (tr ++ [2])) := by
  have HE := Lib.hid (rends_any A n c zs t (i : Int) s best w base hr hl hc hv (by omega) (by omega) hs0 (by omega))
  rw [Int.toNat_natCast, hb] at HE
  have HST := Lib.hid hst
  obtain ⟨tA, tc, rfl, htc⟩ := slice_of_own hst
  clear hst hr hl hb
  go_enter Try.func29, Try.ntmps29
  go_wp2_with fail
  refine HE.out.mono ?_
  rintro e w1 ⟨rfl, rfl⟩
  go_wp2_with (at_builtin; refine wpList_push _ _ rfl (.tmp 23) (.tmp 24) 30 rfl el30 base (.slice tA tr.length tc) tr.length _ rfl HST.out rfl rfl (one_int _ _) (by omega) (by omega) ?_; intro v1 w1 hown1 hg1 hat1)
  go_ret
  refine ⟨v1, rfl, by simpa using hown1, ?_⟩
  exact (Below.refl base w).grown hg1 hB (fun k hk => (HST.out.lt k hk).1)

set_option maxHeartbeats 1000000 in
theorem trace_full (base : Nat) (A : Option Addr) (n c : Nat) (t best : Int) (i : Nat) (s : Int) (tr : List Int) (v : Value) (w : World) (hst : w.ownsRow base 5 1 v tr.length (U8 tr)) (hfull : 16384 < tr.length) :
    Calls Try.prog 29 #[.slice A n c, .int .i64 t, .int .i64 i, .int .i64 s, .int .i64 best, v] w (TracePost w base tr) := by
  have HST := Lib.hid hst
  obtain ⟨tA, tc, rfl, htc⟩ := slice_of_own hst
  clear hst
  go_enter Try.func29, Try.ntmps29
  go_wp2
  go_ret
  exact ⟨_, rfl, HST.out, Below.refl _ _⟩

set_option maxHeartbeats 1000000 in
theorem trace_any (base : Nat) (A : Option Addr) (n c : Nat) (zs : List Int) (t best : Int) (hl : zs.length = n) (hc : n ≤ c) (hv : Vals zs) :
    ∀ (rest : List Int) (i : Nat) (s : Int) (tr : List Int) (v : Value) (w : World), rest = zs.drop i → i ≤ n → 0 ≤ s → s + rest.sum ≤ 33600000000000000 → NoLess t best rest s → w.ownsRow base 5 1 v tr.length (U8 tr) → base ≤ w.heap.size → Rd w base A (I64 zs) →
    Calls Try.prog 29 #[.slice A n c, .int .i64 t, .int .i64 i, .int .i64 s, .int .i64 best, v] w (TracePost w base (branchV t best rest s tr)) := by
  intro rest
  induction rest with
  | nil =>
    intro i s tr v w hrest hi hs0 hs1 hno hst hB hr
    by_cases hfull : 16384 < tr.length
    · rw [branchV_full hfull]
      exact trace_full base A n c t best i s tr v w hst hfull
    · rw [branchV_nil hfull]
      refine trace_leave base A n c zs t best hl hc hv i s tr v w hi hs0 (by simp at hs1; omega) hst hB hr hfull ?_
      rw [endsB, ← hrest]
      simp [NoLess] at hno ⊢
      exact hno
  | cons z r ih =>
    intro i s tr v w hrest hi hs0 hs1 hno hst hB hr
    have hrs : 0 ≤ (z :: r).sum := by
      rw [hrest]; exact sum_nonneg (fun x hx => hv.2 x (List.mem_of_mem_drop hx))
    by_cases hfull : 16384 < tr.length
    · rw [branchV_full hfull]
      exact trace_full base A n c t best i s tr v w hst hfull
    · cases hb : (decide (best ≤ s) || decide (s + (z :: r).sum < t)) with
      | true =>
        rw [branchV_ends hfull hb]
        exact trace_leave base A n c zs t best hl hc hv i s tr v w hi hs0 (by omega) hst hB hr hfull (by rw [endsB, ← hrest]; exact hb)
      | false =>
        rw [branchV_cons hfull hb]
        have hn : n ≤ 16 := by rw [← hl]; exact hv.1
        have HE := Lib.hid (rends_any A n c zs t (i : Int) s best w base hr hl hc hv (by omega) (by omega) hs0 (by omega))
        rw [Int.toNat_natCast, show endsB zs t i s best = false by rw [endsB, ← hrest]; exact hb] at HE
        have HL := Lib.hid hl; clear hl
        have HV := Lib.hid hv; clear hv
        have IH := Lib.hid ih; clear ih
        have HNO := Lib.hid hno; clear hno
        have HRE := Lib.hid (drop_cons hrest); clear hrest hb
        have hin : i < n := by have := HRE.out.2.2; have := HL.out; omega
        have hz : Good z := HV.out.2 z (List.mem_of_getElem? HRE.out.1)
        have hrs' : 0 ≤ r.sum := sum_nonneg (fun x hx => HV.out.2 x (List.mem_of_mem_drop (by rw [← HRE.out.2.1]; exact hx)))
        simp only [List.sum_cons] at hs1 hrs
        unfold Good at hz
        have HST := Lib.hid hst
        obtain ⟨tA, tc, rfl, htc⟩ := slice_of_own hst
        clear hst
        obtain ⟨ad, hA, hadb, hcell⟩ := hr.at_ (k := i) (u := .int .i64 z) (by simp [HRE.out.1])
        have HRD := Lib.hid hr; clear hr
        subst hA
        have i0 : (0 : Int) ≤ (i : Int) := by omega
        have i1 : (i : Int) < (n : Int) := by omega
        go_enter Try.func29, Try.ntmps29
        go_wp2_with fail
        refine HE.out.mono ?_
        rintro e w1 ⟨rfl, rfl⟩
        go_wp2_with fail
        have HN1 := Lib.hid HNO.out.1
        have HN2 := Lib.hid HNO.out.2
        clear HNO
        have b1 : i + 1 ≤ n := by omega
        have b2 : 0 ≤ s + z := by omega
        have b3 : s + z + r.sum ≤ 33600000000000000 := by omega
        have q1 : IntKind.i64.wrap ((i : Int) + 1) = (i : Int) + 1 := IntWalk.i64_in _ (by omega)
        have q2 : IntKind.i64.wrap (s + z) = s + z := IntWalk.i64_in _ (by omega)
        go_region_held3 (fun w' => w'.cell? (ad.add i) = some (.int .i64 z)) (first | go_keep | assumption)
          (first
          | ((go_at_call 29; go_must (rw [show ((i : Int) + 1) = ((i + 1 : Nat) : Int) from rfl]); go_must (with_reducible refine (IH.out (i + 1) (s + z) (tr ++ [1]) v1 w1 HRE.out.2.1 b1 b2 b3 HN1.out HO1.out hsz1 HR1.out).mono ?_); rintro e w2 ⟨v2, rfl, hown2, hb2⟩; have hbl2 : Below base w w2 := hbl1.trans hb2; have hS2 := (hbl2.cell (p := ad.add i) (by rw [block_of_add]; exact hadb)).trans hcell; have HO2 := Lib.hid hown2; clear hown2 hb2))
          | ((refine step_pushAll _ rfl (.tmp 37) (.tmp 38) 30 rfl el30 base (.slice tA tr.length tc) tr.length (U8 tr) (by rfl) (by exact HST.out.alloc _) (w.heap.size + 1) (some ⟨w.heap.size, 0, none⟩) 1 1 [.int .u8 1] (by rfl) (by exact Rd.lit w 5 #[.int .u8 1]) (by rfl) (one_int .u8 1) (by omega) (by show base ≤ (w.alloc _).heap.size; simp; omega) ?_; intro v1 w1 hown1 hg1 hat1; have hbl1 : Below base w w1 := ((Below.refl base w).alloc hB (.cells #[.int .u8 1] 5)).drew.grown hg1 (by show base ≤ (w.alloc _).heap.size; simp; omega) (fun k hk => (HST.out.lt k hk).1); have hS1 := (hbl1.cell (p := ad.add i) (by rw [block_of_add]; exact hadb)).trans hcell; have HO1 := Lib.hid (show w1.ownsRow base 5 1 v1 (tr ++ [1]).length (U8 (tr ++ [1])) by simpa using hown1); have hsz1 : base ≤ w1.heap.size := Nat.le_trans hB hbl1.size; have HR1 := Lib.hid (HRD.out.below hbl1 (Nat.le_refl _)); clear hown1 hg1 hat1)))
        clear q1 q2
        have HR2 := Lib.hid (HRD.out.below hbl2 (Nat.le_refl _))
        have hsz2 : base ≤ w2.heap.size := Nat.le_trans hB hbl2.size
        have HB2 := Lib.hid hbl2
        clear hbl1 hbl2 hS1 hS2 hcell HO1 HR1 hsz1
        generalize hg2 : branchV t best r (s + z) (tr ++ [1]) = tr2 at *
        have HG2 := Lib.hid hg2; clear hg2
        go_wp2_with fail
        rw [show ((i : Int) + 1) = ((i + 1 : Nat) : Int) from rfl]
        refine (IH.out (i + 1) s tr2 v2 w2 HRE.out.2.1 (by omega) (by omega) (by omega) HN2.out HO2.out hsz2 HR2.out).mono ?_
        rintro e w3 ⟨v3, rfl, hown3, hb3⟩
        have HF := Lib.hid (And.intro hown3 (HB2.out.trans hb3))
        clear hown3 hb3
        go_wp2
        go_ret
        try rw [HG2.out]
        exact ⟨v3, rfl, HF.out.1, HF.out.2⟩
end Go.Proofs.Ytlajgdeoobmjjaa
