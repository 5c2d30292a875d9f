import Derived.Test.YtlajgdeoobmjjaaMade
namespace Go.Proofs.Ytlajgdeoobmjjaa
open Go.RowKit

abbrev I64 (zs : List Int) : List Value := zs.map (Value.int .i64)
theorem get_i64 {zs : List Int} {k : Nat} (h : k < zs.length) : (I64 zs)[k]? = some (.int .i64 zs[k]) := by simp [I64, h]

def Good (z : Int) : Prop := 1 ≤ z ∧ z ≤ 2100000000000000
def goodB (z : Int) : Bool := decide (1 ≤ z) && decide (z ≤ 2100000000000000)
theorem goodB_iff (z : Int) : goodB z = true ↔ Good z := by simp [goodB, Good]
def checkV (zs : List Int) (t : Int) : Int := if 16 < zs.length then 4 else if zs.all goodB && goodB t then 0 else 5
def Vals (zs : List Int) : Prop := zs.length ≤ 16 ∧ ∀ z ∈ zs, Good z

theorem checkV_ok (zs : List Int) (t : Int) : checkV zs t = 0 ↔ Vals zs ∧ Good t := by
  unfold checkV Vals
  by_cases h : 16 < zs.length
  · simp [h]; omega
  · simp only [h, if_false]
    by_cases h2 : zs.all goodB && goodB t
    · simp only [h2, if_true, true_iff]
      simp [goodB_iff] at h2
      exact ⟨⟨by omega, h2.1⟩, h2.2⟩
    · simp only [h2]
      simp [goodB_iff] at h2
      constructor
      · intro h; simp at h
      · rintro ⟨⟨_, h3⟩, h4⟩; exact absurd h4 (h2 h3)

theorem check_bad (zs : List Int) (t : Int) (k : Nat) (hn : zs.length ≤ 16) (hk : k < zs.length) (hb : goodB zs[k] = false) : checkV zs t = 5 := by
  have : zs.all goodB = false := by
    rw [List.all_eq_false]; exact ⟨zs[k], List.getElem_mem hk, by simp [hb]⟩
  simp [checkV, this]; omega
theorem check_tail (zs : List Int) (t : Int) (hn : zs.length ≤ 16) (hb : zs.all goodB = true) : checkV zs t = if goodB t then 0 else 5 := by
  simp [checkV, hb]; omega
theorem all_take (zs : List Int) (k : Nat) (hk : k < zs.length) (h : (zs.take k).all goodB = true) (hb : goodB zs[k] = true) : (zs.take (k + 1)).all goodB = true := by
  rw [List.take_succ_eq_append_getElem hk, List.all_append, h]; simp [hb]

set_option maxHeartbeats 400000 in
theorem check_any (A : Option Addr) (n c : Nat) (zs : List Int) (t : Int) (w : World) (B : Nat) (hr : Rd w B A (I64 zs)) (hl : zs.length = n) (hm : n ≤ maxLen) :
    Calls Try.prog 21 #[.slice A n c, .int .i64 t] w fun e w' => e = .returned (.int .i64 (checkV zs t)) ∧ w = w' := by
  have HL := Lib.hid hl
  have HR := Lib.hid hr; clear hr
  unfold maxLen at hm
  by_cases h16 : 16 < n
  · have HE := Lib.hid (show checkV zs t = 4 by simp [checkV]; omega)
    clear hl
    go_enter Try.func21, Try.ntmps21
    go_wp2
    go_ret
    exact ⟨ret_int HE.out.symm, rfl⟩
  · clear hl
    go_enter Try.func21, Try.ntmps21
    go_wp2
    go_loop [12, 6] (fun i _ => ∃ k : Nat, k ≤ n ∧ i = .int .i64 k ∧ Hid ((zs.take k).all goodB = true)) (fun i _ => n - (intOf i).toNat)
    case atStart => exact ⟨0, Nat.zero_le _, rfl, by simp [Hid]⟩
    case round =>
      obtain ⟨k, hk, rfl, HG⟩ := hrel
      by_cases hlt : k < n
      · have hkl : k < zs.length := by rw [HL.out]; exact hlt
        obtain ⟨ad, rfl, hbl, hck⟩ := HR.out.at_ (get_i64 hkl)
        have HB := Lib.hid (check_bad zs t k (by rw [HL.out]; omega) hkl)
        have HT := Lib.hid (all_take zs k hkl HG.out)
        generalize zs[k] = z at *
        by_cases hz1 : z < 1
        · have HE := Lib.hid (HB.out (by simp [goodB]; omega))
          go_wp2
          go_ret
          exact ⟨ret_int HE.out.symm, rfl⟩
        · by_cases hz2 : 2100000000000000 < z
          · have HE := Lib.hid (HB.out (by simp [goodB]; omega))
            go_wp2
            go_ret
            exact ⟨ret_int HE.out.symm, rfl⟩
          · go_wp2
            go_round
            case rel => exact ⟨k + 1, by omega, by go_num, HT.out (by simp [goodB]; omega)⟩
            case measure => simp [intOf]; omega
      · have HE := Lib.hid (check_tail zs t (by rw [HL.out]; omega) (by rw [← HG.out, List.take_of_length_le (by rw [HL.out]; omega)]))
        by_cases hz1 : t < 1
        · have HE := Lib.hid (show checkV zs t = 5 by rw [HE.out]; simp [goodB]; omega)
          go_wp2
          go_ret
          exact ⟨ret_int HE.out.symm, rfl⟩
        · by_cases hz2 : 2100000000000000 < t
          · have HE := Lib.hid (show checkV zs t = 5 by rw [HE.out]; simp [goodB]; omega)
            go_wp2
            go_ret
            exact ⟨ret_int HE.out.symm, rfl⟩
          · have HE := Lib.hid (show checkV zs t = 0 by rw [HE.out]; simp [goodB]; omega)
            go_wp2
            go_ret
            exact ⟨ret_int HE.out.symm, rfl⟩
set_option maxHeartbeats 400000 in
theorem proper_any (A : Option Addr) (n c : Nat) (zs : List Int) (t : Int) (w : World) (B : Nat) (hr : Rd w B A (I64 zs)) (hl : zs.length = n) (hm : n ≤ maxLen) :
    Calls Try.prog 25 #[.slice A n c, .int .i64 t] w fun e w' => e = .returned (.int .i64 (checkV zs t)) ∧ w = w' := by
  have HL := Lib.hid hl
  have HR := Lib.hid hr; clear hr
  unfold maxLen at hm
  by_cases h16 : 16 < n
  · have HE := Lib.hid (show checkV zs t = 4 by simp [checkV]; omega)
    clear hl
    go_enter Try.func25, Try.ntmps25
    go_wp2
    go_ret
    exact ⟨ret_int HE.out.symm, rfl⟩
  · clear hl
    go_enter Try.func25, Try.ntmps25
    go_wp2
    go_loop [5] (fun i => ∃ k : Nat, k ≤ n ∧ i = .int .i64 k ∧ Hid ((zs.take k).all goodB = true)) (fun i => n - (intOf i).toNat)
    case atStart => exact ⟨0, Nat.zero_le _, rfl, by simp [Hid]⟩
    case round =>
      obtain ⟨k, hk, rfl, HG⟩ := hrel
      by_cases hlt : k < n
      · have hkl : k < zs.length := by rw [HL.out]; exact hlt
        obtain ⟨ad, rfl, hbl, hck⟩ := HR.out.at_ (get_i64 hkl)
        have HB := Lib.hid (check_bad zs t k (by rw [HL.out]; omega) hkl)
        have HT := Lib.hid (all_take zs k hkl HG.out)
        generalize zs[k] = z at *
        by_cases hz1 : z < 1
        · have HE := Lib.hid (HB.out (by simp [goodB]; omega))
          go_wp2
          go_ret
          exact ⟨ret_int HE.out.symm, rfl⟩
        · by_cases hz2 : 2100000000000000 < z
          · have HE := Lib.hid (HB.out (by simp [goodB]; omega))
            go_wp2
            go_ret
            exact ⟨ret_int HE.out.symm, rfl⟩
          · go_wp2
            go_round
            case rel => exact ⟨k + 1, by omega, by go_num, HT.out (by simp [goodB]; omega)⟩
            case measure => simp [intOf]; omega
      · have HE := Lib.hid (check_tail zs t (by rw [HL.out]; omega) (by rw [← HG.out, List.take_of_length_le (by rw [HL.out]; omega)]))
        by_cases hz1 : t < 1
        · have HE := Lib.hid (show checkV zs t = 5 by rw [HE.out]; simp [goodB]; omega)
          go_wp2
          go_ret
          exact ⟨ret_int HE.out.symm, rfl⟩
        · by_cases hz2 : 2100000000000000 < t
          · have HE := Lib.hid (show checkV zs t = 5 by rw [HE.out]; simp [goodB]; omega)
            go_wp2
            go_ret
            exact ⟨ret_int HE.out.symm, rfl⟩
          · have HE := Lib.hid (show checkV zs t = 0 by rw [HE.out]; simp [goodB]; omega)
            go_wp2
            go_ret
            exact ⟨ret_int HE.out.symm, rfl⟩

theorem take_sum (zs : List Int) (k : Nat) (h : k < zs.length) : (zs.take (k+1)).sum = (zs.take k).sum + zs[k] := by
  rw [List.take_succ_eq_append_getElem h, List.sum_append]; simp
theorem sum_bd (zs : List Int) (h : ∀ z ∈ zs, Good z) (k : Nat) : 0 ≤ (zs.take k).sum ∧ (zs.take k).sum ≤ 2100000000000000 * k := by
  induction zs generalizing k with
  | nil => simp; omega
  | cons a t ih =>
    cases k with
    | zero => simp
    | succ k =>
      have h1 := ih (fun z hz => h z (by simp [hz])) k
      have h2 := h a (by simp)
      simp only [List.take_succ_cons, List.sum_cons]
      unfold Good at h2
      omega
theorem sum_bd' (zs : List Int) (h : Vals zs) : 0 ≤ zs.sum ∧ zs.sum ≤ 33600000000000000 := by
  have := sum_bd zs h.2 zs.length
  have h1 := h.1
  simp at this
  omega

set_option maxHeartbeats 400000 in
theorem total_any (A : Option Addr) (n c : Nat) (zs : List Int) (w : World) (B : Nat) (hr : Rd w B A (I64 zs)) (hl : zs.length = n) (hv : Vals zs) :
    Calls Try.prog 22 #[.slice A n c] w fun e w' => e = .returned (.int .i64 zs.sum) ∧ w = w' := by
  have hn : n ≤ 16 := by rw [← hl]; exact hv.1
  have HL := Lib.hid hl; clear hl
  have HB := Lib.hid hv.2; clear hv
  have HR := Lib.hid hr; clear hr
  go_enter Try.func22, Try.ntmps22
  go_wp2
  go_loop [3, 8, 5] (fun s i _ => ∃ k : Nat, k ≤ n ∧ i = .int .i64 k ∧ s = .int .i64 (zs.take k).sum) (fun _ i _ => n - (intOf i).toNat)
  case atStart => exact ⟨0, Nat.zero_le _, rfl, by simp⟩
  case round =>
    obtain ⟨k, hk, rfl, rfl⟩ := hrel
    have hs := sum_bd zs HB.out k
    by_cases hlt : k < n
    · have hkl : k < zs.length := by rw [HL.out]; exact hlt
      have hz := HB.out zs[k] (List.getElem_mem hkl)
      unfold Good at hz
      obtain ⟨ad, rfl, hbl, hck⟩ := HR.out.at_ (get_i64 hkl)
      have HS := Lib.hid (take_sum zs k hkl)
      generalize zs[k] = z at *
      go_wp2
      go_round
      case rel => exact ⟨k + 1, by omega, by go_num, by rw [HS.out]⟩
      case measure => simp [intOf]; omega
    · go_wp2
      go_ret
      have : zs.take k = zs := List.take_of_length_le (by rw [HL.out]; omega)
      rw [this]
      exact ⟨rfl, rfl⟩
set_option maxHeartbeats 400000 in
theorem sum_any (A : Option Addr) (n c : Nat) (zs : List Int) (w : World) (B : Nat) (hr : Rd w B A (I64 zs)) (hl : zs.length = n) (hv : Vals zs) :
    Calls Try.prog 26 #[.slice A n c] w fun e w' => e = .returned (.int .i64 zs.sum) ∧ w = w' := by
  have hn : n ≤ 16 := by rw [← hl]; exact hv.1
  have HL := Lib.hid hl; clear hl
  have HB := Lib.hid hv.2; clear hv
  have HR := Lib.hid hr; clear hr
  go_enter Try.func26, Try.ntmps26
  go_wp2
  go_loop [3, 4] (fun s i => ∃ k : Nat, k ≤ n ∧ i = .int .i64 k ∧ s = .int .i64 (zs.take k).sum) (fun _ i => n - (intOf i).toNat)
  case atStart => exact ⟨0, Nat.zero_le _, rfl, by simp⟩
  case round =>
    obtain ⟨k, hk, rfl, rfl⟩ := hrel
    have hs := sum_bd zs HB.out k
    by_cases hlt : k < n
    · have hkl : k < zs.length := by rw [HL.out]; exact hlt
      have hz := HB.out zs[k] (List.getElem_mem hkl)
      unfold Good at hz
      obtain ⟨ad, rfl, hbl, hck⟩ := HR.out.at_ (get_i64 hkl)
      have HS := Lib.hid (take_sum zs k hkl)
      generalize zs[k] = z at *
      go_wp2
      go_round
      case rel => exact ⟨k + 1, by omega, by go_num, by rw [HS.out]⟩
      case measure => simp [intOf]; omega
    · go_wp2
      go_ret
      have : zs.take k = zs := List.take_of_length_le (by rw [HL.out]; omega)
      rw [this]
      exact ⟨rfl, rfl⟩

/-- the certificate's block: values, target, sum, trace -/
def endsB (zs : List Int) (t : Int) (i : Nat) (s best : Int) : Bool := decide (best ≤ s) || decide (s + (zs.drop i).sum < t)

theorem vals_drop {zs : List Int} (h : Vals zs) (i : Nat) : Vals (zs.drop i) :=
  ⟨by have := h.1; simp; omega, fun z hz => h.2 z (List.mem_of_mem_drop hz)⟩

set_option maxHeartbeats 400000 in
theorem rends_any (A : Option Addr) (n c : Nat) (zs : List Int) (t : Int) (i : Int) (s best : Int) (w : World) (B : Nat) (hr : Rd w B A (I64 zs)) (hl : zs.length = n) (hc : n ≤ c) (hv : Vals zs)
    (h0 : 0 ≤ i) (hi : i ≤ n) (hs0 : 0 ≤ s) (hs1 : s ≤ 100000000000000000) :
    Calls Try.prog 38 #[.slice A n c, .int .i64 t, .int .i64 i, .int .i64 s, .int .i64 best] w fun e w' => e = .returned (.bool (endsB zs t i.toNat s best)) ∧ w = w' := by
  obtain ⟨k, rfl⟩ := Int.eq_ofNat_of_zero_le h0
  have hk : k ≤ n := by omega
  have HL := Lib.hid hl; clear hl
  have HV := Lib.hid hv; clear hv
  have HR := Lib.hid hr; clear hr
  have hsum := sum_bd' _ (vals_drop HV.out k)
  have hcut := run_cut el23 A n c (k : Int) (by omega) (by omega)
  simp only [Int.toNat_natCast] at hcut
  have HRC := Lib.hid (HR.out.cut1 (k := k) (c := c) (by rw [HL.out]; exact hc))
  by_cases hb : best ≤ s
  · go_enter Try.func38, Try.ntmps38
    go_wp2
    go_ret
    exact ⟨by simp [endsB, hb], rfl⟩
  · go_enter Try.func38, Try.ntmps38
    go_wp2_with fail
    refine (sum_any _ _ _ (zs.drop k) _ B HRC.out (by rw [List.length_drop, HL.out]) (vals_drop HV.out k)).mono ?_
    rintro e w' ⟨rfl, rfl⟩
    clear hcut
    go_wp2
    go_ret
    refine ⟨?_, rfl⟩
    have hb' : ¬ best ≤ s := by omega
    simp [endsB, hb']

/-- the certificate's block -/
def CertAt (w : World) (g : Nat) (A : Option Addr) (n c : Nat) (t sum : Int) (tr : Value) : Prop := Blk w g 55 #[.slice A n c, .int .i64 t, .int .i64 sum, tr]

set_option maxHeartbeats 400000 in
theorem ends_any (g : Nat) (A : Option Addr) (n c : Nat) (zs : List Int) (t : Int) (i : Int) (s best : Int) (tr : Value) (w : World) (B : Nat) (hblk : CertAt w g A n c t best tr) (hr : Rd w B A (I64 zs)) (hl : zs.length = n) (hc : n ≤ c) (hv : Vals zs)
    (h0 : 0 ≤ i) (hi : i ≤ n) (hs0 : 0 ≤ s) (hs1 : s ≤ 100000000000000000) :
    Calls Try.prog 37 #[.pointer (some ⟨g, 0, none⟩), .int .i64 i, .int .i64 s] w fun e w' => e = .returned (.bool (endsB zs t i.toNat s best)) ∧ ∃ m, w' = w.drewN m := by
  obtain ⟨k, rfl⟩ := Int.eq_ofNat_of_zero_le h0
  have hk : k ≤ n := by omega
  have HL := Lib.hid hl; clear hl
  have HV := Lib.hid hv; clear hv
  have HR := Lib.hid hr; clear hr
  have c0 := hblk.cell 0
  have c1 := hblk.cell 1
  have c2 := hblk.cell 2
  simp at c0 c1 c2
  have HB := Lib.hid hblk; clear hblk
  have hsum := sum_bd' _ (vals_drop HV.out k)
  have hcut := run_cut el23 A n c (k : Int) (by omega) (by omega)
  simp only [Int.toNat_natCast] at hcut
  have HRC := Lib.hid (HR.out.cut1 (k := k) (c := c) (by rw [HL.out]; exact hc))
  by_cases hb : best ≤ s
  · have hbd : decide (best ≤ s) = true := by simpa using hb
    go_enter Try.func37, Try.ntmps37
    go_wp2
    go_quiet (fail)
    go_wp2
    go_ret
    exact ⟨by simp [endsB, hb], _, rfl⟩
  · have hbd : decide (best ≤ s) = false := by simpa using hb
    go_enter Try.func37, Try.ntmps37
    go_wp2
    go_quiet ((go_at_call 22; exact quiet_left (total_any _ _ _ (zs.drop k) _ B (HRC.out.drewN _) (by rw [List.length_drop, HL.out]) (vals_drop HV.out k))))
    go_wp2
    go_ret
    refine ⟨?_, _, rfl⟩
    simp [endsB, hbd]
end Go.Proofs.Ytlajgdeoobmjjaa
