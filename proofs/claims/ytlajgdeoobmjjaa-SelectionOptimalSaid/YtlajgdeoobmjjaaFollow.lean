import Derived.Test.YtlajgdeoobmjjaaSane
namespace Go.Proofs.Ytlajgdeoobmjjaa
open Go.RowKit

/-- the place j of the list ps is a place of n values, above the one before it -/
def okAt (n : Nat) (ps : List Int) (j : Nat) : Bool :=
  decide (0 ≤ ps.getD j 0) && decide (ps.getD j 0 < n) && (decide (j = 0) || decide (ps.getD (j - 1) 0 < ps.getD j 0))
def psum (zs ps : List Int) : Int := (ps.map (fun p => zs.getD p.toNat 0)).sum
def okPre (n : Nat) (ps : List Int) (k : Nat) : Prop := ∀ j, j < k → okAt n ps j = true
def properB (zs ps : List Int) (s : Int) : Bool := (List.range ps.length).all (okAt zs.length ps) && decide (psum zs ps = s)

theorem okPre_le {n : Nat} {ps : List Int} {k : Nat} (h : okPre n ps k) : ∀ j, j < k → (j : Int) ≤ ps.getD j 0 ∧ ps.getD j 0 < n := by
  intro j
  induction j with
  | zero => intro hj; have := h 0 hj; simp [okAt] at this; simp; omega
  | succ j ih =>
    intro hj
    have h1 := ih (by omega)
    have h2 := h (j + 1) hj
    simp [okAt] at h2
    simp at h1 ⊢
    omega
theorem okPre_k {n : Nat} {ps : List Int} {k : Nat} (h : okPre n ps k) : k ≤ n := by
  rcases Nat.eq_zero_or_pos k with h0 | h0
  · omega
  · have := okPre_le h (k - 1) (by omega); omega
theorem okPre_succ {n : Nat} {ps : List Int} {k : Nat} (h : okPre n ps k) (h1 : okAt n ps k = true) : okPre n ps (k + 1) := by
  intro j hj
  rcases Nat.lt_or_ge j k with h2 | h2
  · exact h j h2
  · obtain rfl : j = k := by omega
    exact h1
theorem proper_bad {zs ps : List Int} {s : Int} {k : Nat} (hk : k < ps.length) (h : okAt zs.length ps k = false) : properB zs ps s = false := by
  simp only [properB, Bool.and_eq_false_iff]
  left
  rw [List.all_eq_false]
  exact ⟨k, by simpa using hk, by simp [h]⟩
theorem proper_end {zs ps : List Int} {s : Int} (h : okPre zs.length ps ps.length) : properB zs ps s = decide (psum zs ps = s) := by
  have : (List.range ps.length).all (okAt zs.length ps) = true := by
    rw [List.all_eq_true]; intro j hj; exact h j (by simpa using hj)
  simp [properB, this]
theorem psum_succ (zs ps : List Int) (k : Nat) (h : k < ps.length) : psum zs (ps.take (k + 1)) = psum zs (ps.take k) + zs.getD (ps.getD k 0).toNat 0 := by
  rw [List.take_succ_eq_append_getElem h]
  rw [psum, List.map_append, List.sum_append, ← psum]
  simp [List.getD, h]
theorem getD_good {zs : List Int} (h : ∀ z ∈ zs, Good z) {j : Nat} (hj : j < zs.length) : Good (zs.getD j 0) := by
  simp only [List.getD, List.getElem?_eq_getElem hj, Option.getD_some]
  exact h _ (List.getElem_mem hj)
theorem psum_bd {zs ps : List Int} (hv : ∀ z ∈ zs, Good z) : ∀ {k : Nat}, k ≤ ps.length → okPre zs.length ps k → 0 ≤ psum zs (ps.take k) ∧ psum zs (ps.take k) ≤ 2100000000000000 * k := by
  intro k
  induction k with
  | zero => intro _ _; simp [psum]
  | succ k ih =>
    intro hk h
    have h1 := ih (by omega) (fun j hj => h j (by omega))
    have h2 := okPre_le h k (by omega)
    have h3 := getD_good hv (j := (ps.getD k 0).toNat) (by omega)
    rw [psum_succ zs ps k (by omega)]
    unfold Good at h3
    omega

set_option maxHeartbeats 1000000 in
theorem sproper_any (A pA : Option Addr) (n c m pc : Nat) (zs ps : List Int) (s : Int) (w : World) (B : Nat) (hB : B ≤ w.heap.size) (hr : Rd w B A (I64 zs)) (hp : Rd w B pA (I64 ps)) (hl : zs.length = n) (hpl : ps.length = m) (hv : Vals zs) (hm : m ≤ maxLen) :
    Calls Try.prog 30 #[.slice A n c, .agg #[.slice pA m pc, .int .i64 s]] w fun e w' => e = .returned (.bool (properB zs ps s)) ∧ Below w.heap.size w w' := by
  have hn16 : n ≤ 16 := by rw [← hl]; exact hv.1
  unfold maxLen at hm
  have HR := Lib.hid (hr.alloc hB (.cells #[.slice pA m pc, .int .i64 s] 29)); clear hr
  have HP := Lib.hid (hp.alloc hB (.cells #[.slice pA m pc, .int .i64 s] 29)); clear hp
  have HV := Lib.hid hv.2; clear hv
  have HL := Lib.hid hl; clear hl
  have HPL := Lib.hid hpl; clear hpl
  go_enter Try.func30, Try.ntmps30
  go_wp2
  go_loop [5, 6, 7, 11] (fun t _ _ i => ∃ k : Nat, k ≤ m ∧ i = .int .i64 k ∧ t = .int .i64 (psum zs (ps.take k)) ∧ Hid (okPre n ps k)) (fun _ _ _ i => m - (intOf i).toNat)
  case atStart => exact ⟨0, Nat.zero_le _, rfl, by simp [psum], fun j hj => absurd hj (by omega)⟩
  case round =>
    obtain ⟨k, hk, rfl, rfl, HO⟩ := hrel
    have hkn := okPre_k HO.out
    have hps := psum_bd (zs := zs) (ps := ps) (k := k) HV.out (by rw [HPL.out]; exact hk) (by rw [HL.out]; exact HO.out)
    by_cases hlt : k < m
    · have hkp : k < ps.length := by rw [HPL.out]; exact hlt
      have HG := Lib.hid (show ps.getD k 0 = ps[k] by simp [List.getD, hkp])
      obtain ⟨ad, hA, hadb, hcell⟩ := HP.out.at_ (get_i64 hkp)
      have HBAD := Lib.hid (fun h => proper_bad (zs := zs) (ps := ps) (s := s) hkp h)
      have HSU := Lib.hid (psum_succ zs ps k hkp)
      have hOK : Hid (okAt n ps k = (decide (0 ≤ ps[k]) && decide (ps[k] < n) && (decide (k = 0) || decide (ps.getD (k - 1) 0 < ps[k])))) := by
        unfold Hid okAt; rw [HG.out]
      rw [HG.out] at HSU
      rw [HL.out] at HBAD
      subst hA
      generalize ps[k] = p at *
      by_cases hp0 : p < 0
      · have HF := Lib.hid (HBAD.out (by rw [hOK.out]; simp; omega))
        go_wp2
        go_ret
        exact ⟨ret_bool HF.out.symm, (Below.refl _ _).alloc (Nat.le_refl _) _⟩
      · obtain ⟨p, rfl⟩ := Int.eq_ofNat_of_zero_le (show 0 ≤ p by omega)
        by_cases hpn : n ≤ p
        · have HF := Lib.hid (HBAD.out (by rw [hOK.out]; simp; omega))
          go_wp2
          go_ret
          exact ⟨ret_bool HF.out.symm, (Below.refl _ _).alloc (Nat.le_refl _) _⟩
        · have hpz : p < zs.length := by rw [HL.out]; omega
          obtain ⟨bd, hA, hbdb, hcellz⟩ := HR.out.at_ (get_i64 hpz)
          have hgood := HV.out zs[p] (List.getElem_mem hpz)
          have HZ := Lib.hid (show zs.getD (p : Int).toNat 0 = zs[p] by simp [List.getD, hpz])
          rw [HZ.out] at HSU
          unfold Good at hgood
          generalize zs[p] = z at *
          subst hA
          by_cases hk0 : k = 0
          · have HN := Lib.hid (okPre_succ HO.out (by rw [hOK.out]; simp [hk0]; omega))
            have hd0 : decide ((0 : Int) < (k : Int)) = false := by simp; omega
            have hk1 : k ≤ 0 := by omega
            clear hk0
            go_wp2
            go_round
            case rel => exact ⟨k + 1, by omega, by go_num, by rw [HSU.out], HN.out⟩
            case measure => simp [intOf]; omega
          · have hjp : k - 1 < ps.length := by omega
            obtain ⟨ad', hA, _, hcell'⟩ := HP.out.at_ (get_i64 hjp)
            injection hA with hA
            subst hA
            have HG' := Lib.hid (show ps.getD (k - 1) 0 = ps[k - 1] by simp [List.getD, hjp])
            rw [HG'.out] at hOK
            generalize ps[k - 1] = q at *
            have hk1 : 1 ≤ k := by omega
            have hd0 : decide ((0 : Int) < (k : Int)) = true := by simp; omega
            by_cases hq : (p : Int) ≤ q
            · have HF := Lib.hid (HBAD.out (by rw [hOK.out]; simp [hk0]; omega))
              clear hk0
              go_wp2
              go_ret
              exact ⟨ret_bool HF.out.symm, (Below.refl _ _).alloc (Nat.le_refl _) _⟩
            · have HN := Lib.hid (okPre_succ HO.out (by rw [hOK.out]; simp [hk0]; omega))
              clear hk0
              go_wp2
              go_round
              case rel => exact ⟨k + 1, by omega, by go_num, by rw [HSU.out], HN.out⟩
              case measure => simp [intOf]; omega
    · have e : m = k := by omega
      have HF := Lib.hid (proper_end (zs := zs) (ps := ps) (s := s) (by rw [HL.out, HPL.out, e]; exact HO.out))
      clear e
      have hte : ps.take k = ps := List.take_of_length_le (by rw [HPL.out]; omega)
      rw [hte] at hps ⊢
      clear hte
      go_wp2
      go_ret
      exact ⟨ret_bool (by rw [HF.out]; rfl), (Below.refl _ _).alloc (Nat.le_refl _) _⟩

/-- the steps of a certificate, plain: what is left behind the branch, if its steps are right -/
def followV (t best : Int) : List Int → Int → List Int → Option (List Int)
  | _, _, [] => none
  | rest, s, x :: tr =>
    if x = 2 then (if decide (best ≤ s) || decide (s + rest.sum < t) then some tr else none)
    else if x = 1 then
      match rest with
      | [] => none
      | z :: r => match followV t best r (s + z) tr with
        | none => none
        | some tr1 => followV t best r s tr1
    else none

theorem followV_nil {t best : Int} {rest : List Int} {s : Int} : followV t best rest s [] = none := by unfold followV; rfl
theorem followV_leave {t best : Int} {rest : List Int} {s : Int} {tr : List Int} : followV t best rest s (2 :: tr) = if decide (best ≤ s) || decide (s + rest.sum < t) then some tr else none := by
  unfold followV; rw [if_pos rfl]
theorem followV_other {t best : Int} {rest : List Int} {s x : Int} {tr : List Int} (h1 : x ≠ 2) (h2 : x ≠ 1) : followV t best rest s (x :: tr) = none := by
  unfold followV; rw [if_neg h1, if_neg h2]
theorem followV_end {t best : Int} {s : Int} {tr : List Int} : followV t best [] s (1 :: tr) = none := by
  rw [followV, if_neg (by decide), if_pos rfl]
theorem followV_take {t best z : Int} {r : List Int} {s : Int} {tr : List Int} : followV t best (z :: r) s (1 :: tr) = match followV t best r (s + z) tr with
        | none => none
        | some tr1 => followV t best r s tr1 := by
  rw [followV, if_neg (by decide), if_pos rfl]
theorem followV_len (t best : Int) : ∀ (rest : List Int) (s : Int) (tr l : List Int), followV t best rest s tr = some l → ∃ k, 0 < k ∧ k ≤ tr.length ∧ l = tr.drop k := by
  intro rest
  induction rest with
  | nil =>
    intro s tr l h
    rcases tr with _ | ⟨x, tr⟩
    · rw [followV_nil] at h; cases h
    · by_cases h2 : x = 2
      · subst h2; rw [followV_leave] at h
        split at h
        · cases h; exact ⟨1, by omega, by simp, rfl⟩
        · cases h
      · by_cases h1 : x = 1
        · subst h1; rw [followV_end] at h; cases h
        · rw [followV_other h2 h1] at h; cases h
  | cons z r ih =>
    intro s tr l h
    rcases tr with _ | ⟨x, tr⟩
    · rw [followV_nil] at h; cases h
    · by_cases h2 : x = 2
      · subst h2; rw [followV_leave] at h
        split at h
        · cases h; exact ⟨1, by omega, by simp, rfl⟩
        · cases h
      · by_cases h1 : x = 1
        · subst h1; rw [followV_take] at h
          rcases h3 : followV t best r (s + z) tr with _ | tr1
          · rw [h3] at h; cases h
          · rw [h3] at h
            obtain ⟨k1, a1, a2, a3⟩ := ih _ _ _ h3
            obtain ⟨k2, b1, b2, b3⟩ := ih _ _ _ h
            subst a3
            simp at b2
            refine ⟨1 + k1 + k2, by omega, by simp; omega, ?_⟩
            rw [b3, List.drop_drop, Nat.add_assoc, Nat.add_comm 1, List.drop_succ_cons]
        · rw [followV_other h2 h1] at h; cases h

/-- the certificate's block, and the trace that it reads -/
def CertRd (w : World) (g B : Nat) (A : Option Addr) (n c : Nat) (t best : Int) (tr : List Int) : Prop :=
  ∃ tA tc, CertAt w g A n c t best (.slice tA tr.length tc) ∧ tr.length ≤ tc ∧ Rd w B tA (U8 tr)
theorem CertRd.drewN {w : World} {g B : Nat} {A : Option Addr} {n c : Nat} {t best : Int} {tr : List Int} (h : CertRd w g B A n c t best tr) (k : Nat) : CertRd (w.drewN k) g B A n c t best tr := h

def FollowPost (w : World) (g B : Nat) (A : Option Addr) (n c : Nat) (t best : Int) (r : Option (List Int)) (e : Ending) (w' : World) : Prop :=
  e = .returned (.bool r.isSome) ∧ w.grownBy w' (some g) ∧ ∃ tr, CertRd w' g B A n c t best tr ∧ (∀ l, r = some l → tr = l)

theorem cert_step {w : World} {g B : Nat} {A : Option Addr} {n c : Nat} {t best x : Int} {tr : List Int} (hB : B ≤ g) (h : CertRd w g B A n c t best (x :: tr)) :
    ∃ ad m tc, CertAt w g A n c t best (.slice (some ad) m tc) ∧ w.cell? ad = some (.int .u8 x) ∧ ad.block < B ∧ 1 ≤ m ∧ m ≤ tc ∧
      CertRd (w.setCell ⟨g, 3, none⟩ (.slice (cutA (some ad) tc 1 1) (m - 1) (tc - 1))) g B A n c t best tr := by
  obtain ⟨tA, tc, hB1, hle, hr⟩ := h
  obtain ⟨ad, rfl, hadb, hcell⟩ := hr.at_ (k := 0) (u := .int .u8 x) (by simp)
  have hcut := hr.cut1 (k := 1) (c := tc) hle
  have h0 : CertRd (w.setCell ⟨g, 3, none⟩ (.slice (cutA (some ad) tc 1 1) tr.length (tc - 1))) g B A n c t best tr :=
    ⟨_, tc - 1, by simpa [CertAt] using Blk.set_ hB1 3 (.slice (cutA (some ad) tc 1 1) tr.length (tc - 1)), by simp at hle; omega, (Rd.setCell (p := ⟨g, 3, none⟩) (by simpa using hcut) hB _)⟩
  exact ⟨ad, tr.length + 1, tc, by simpa using hB1, by simpa [Addr.add] using hcell, hadb, by omega, by simpa using hle, h0⟩

def nextR (a : Option (List Int)) (f : List Int → Option (List Int)) : Option (List Int) :=
  match a with
  | none => none
  | some x => f x
def leaveR (b : Bool) (tr : List Int) : Option (List Int) := if b then some tr else none
theorem leaveR_some (b : Bool) (tr : List Int) : (leaveR b tr).isSome = b := by cases b <;> rfl
theorem leaveR_eq (b : Bool) (tr : List Int) : ∀ l, leaveR b tr = some l → tr = l := by
  intro l h
  cases b
  · cases h
  · injection h

set_option maxHeartbeats 1000000 in
theorem follow_nil (g B : Nat) (A : Option Addr) (n c : Nat) (t best : Int) (i : Nat) (s : Int) (w : World) (hst : CertRd w g B A n c t best []) :
    Calls Try.prog 31 #[.pointer (some ⟨g, 0, none⟩), .int .i64 i, .int .i64 s] w (FollowPost w g B A n c t best none) := by
  have HST := Lib.hid hst
  obtain ⟨tA, tc, hB1, hle, hr⟩ := hst
  have c3 := Blk.cell hB1 3
  simp at c3
  clear hB1 hr
  go_enter Try.func31, Try.ntmps31
  go_wp2
  go_ret
  exact ⟨rfl, only_refl _ _, [], HST.out, fun l h => by cases h⟩

set_option maxHeartbeats 1000000 in
theorem follow_leave (g B : Nat) (A : Option Addr) (n c : Nat) (zs : List Int) (t best : Int) (hg : B ≤ g) (hl : zs.length = n) (hc : n ≤ c) (hv : Vals zs)
    (i : Nat) (s : Int) (x : Int) (tr : List Int) (w : World) (hi : i ≤ n) (hs0 : 0 ≤ s) (hs1 : s ≤ 33600000000000000) (hst : CertRd w g B A n c t best (x :: tr)) (hr : Rd w B A (I64 zs)) (hx : x = 2) :
    Calls Try.prog 31 #[.pointer (some ⟨g, 0, none⟩), .int .i64 i, .int .i64 s] w (FollowPost w g B A n c t best (leaveR (endsB zs t i s best) tr)) := by
  obtain ⟨ad, m, tc, hB1, hcell, hadb, hm1, htc, hst2⟩ := cert_step hg hst
  have hx2 : (x == 2) = true := by simp [hx]
  clear hst hx
  have HB1 := Lib.hid hB1
  have HST2 := Lib.hid hst2
  obtain ⟨tA2, tc2, hB2, hu1, hu2⟩ := hst2
  have HE := Lib.hid (ends_any g A n c zs t (i : Int) s best _ _ B hB2 (hr.setCell (p := ⟨g, 3, none⟩) hg _) hl hc hv (by omega) (by omega) hs0 (by omega))
  rw [Int.toNat_natCast] at HE
  have HO := Lib.hid (only_setCell (p := ⟨g, 3, none⟩) (only_refl w (some g)) (.inl rfl) (.slice (cutA (some ad) tc 1 1) (m - 1) (tc - 1)))
  have c3 := Blk.cell hB1 3
  have k3 := Blk.frozen hB1 3
  simp at c3
  have hcut := run_cut el30 (some ad) m tc 1 (by omega) (by omega)
  simp only [show (1 : Int).toNat = 1 from rfl] at hcut
  have hne : ((m : Int) == 0) = false := by simp; omega
  clear hB1 hB2 hr hl hu1 hu2
  generalize endsB zs t i s best = eb at *
  go_enter Try.func31, Try.ntmps31
  go_wp2_with fail
  refine HE.out.mono ?_
  rintro e w1 ⟨rfl, d, rfl⟩
  go_wp2
  go_ret
  exact ⟨ret_bool (leaveR_some eb tr).symm, only_drewN HO.out d, tr, HST2.out.drewN d, leaveR_eq eb tr⟩

theorem follow_bad (g B : Nat) (A : Option Addr) (n c : Nat) (t best : Int) (hg : B ≤ g) (i : Nat) (s : Int) (x : Int) (tr : List Int) (w : World) (hst : CertRd w g B A n c t best (x :: tr)) (hx2 : x ≠ 2) (hx : x ≠ 1 ∨ i = n) :
    Calls Try.prog 31 #[.pointer (some ⟨g, 0, none⟩), .int .i64 i, .int .i64 s] w (FollowPost w g B A n c t best none) := by
  obtain ⟨ad, m, tc, hB1, hcell, hadb, hm1, htc, hst2⟩ := cert_step hg hst
  have hd2 : (x == 2) = false := by simp [hx2]
  have HST2 := Lib.hid hst2
  have HO := Lib.hid (only_setCell (p := ⟨g, 3, none⟩) (only_refl w (some g)) (.inl rfl) (.slice (cutA (some ad) tc 1 1) (m - 1) (tc - 1)))
  have c0 := Blk.cell hB1 0
  have c3 := Blk.cell hB1 3
  have k3 := Blk.frozen hB1 3
  simp at c0 c3
  have hcut := run_cut el30 (some ad) m tc 1 (by omega) (by omega)
  simp only [show (1 : Int).toNat = 1 from rfl] at hcut
  have hne : ((m : Int) == 0) = false := by simp; omega
  clear hB1 hst hst2 hx2
  by_cases hx1 : x = 1
  · have hin : i = n := by rcases hx with h | h; exact absurd hx1 h; exact h
    have hd1 : (x == 1) = true := by simp [hx1]
    subst hin
    clear hx hx1
    go_enter Try.func31, Try.ntmps31
    go_wp2
    go_ret
    exact ⟨rfl, HO.out, tr, HST2.out, fun l h => by cases h⟩
  · have hd1 : (x == 1) = false := by simp [hx1]
    clear hx hx1
    go_enter Try.func31, Try.ntmps31
    go_wp2
    go_ret
    exact ⟨rfl, HO.out, tr, HST2.out, fun l h => by cases h⟩

set_option maxHeartbeats 1000000 in
theorem follow_any (g B : Nat) (A : Option Addr) (n c : Nat) (zs : List Int) (t best : Int) (hg : B ≤ g) (hl : zs.length = n) (hc : n ≤ c) (hv : Vals zs) :
    ∀ (rest : List Int) (i : Nat) (s : Int) (tr : List Int) (w : World), rest = zs.drop i → i ≤ n → 0 ≤ s → s + rest.sum ≤ 33600000000000000 → CertRd w g B A n c t best tr → Rd w B A (I64 zs) →
    Calls Try.prog 31 #[.pointer (some ⟨g, 0, none⟩), .int .i64 i, .int .i64 s] w (FollowPost w g B A n c t best (followV t best rest s tr)) := by
  intro rest
  induction rest with
  | nil =>
    intro i s tr w hrest hi hs0 hs1 hst hr
    have hin : i = n := by
      have h := congrArg List.length hrest
      simp at h
      omega
    rcases tr with _ | ⟨x, tr⟩
    · rw [followV_nil]; exact follow_nil g B A n c t best i s w hst
    · by_cases hx2 : x = 2
      · have := follow_leave g B A n c zs t best hg hl hc hv i s x tr w hi hs0 (by simp at hs1; omega) hst hr hx2
        subst hx2
        rw [followV_leave, hrest]
        exact this
      · have hno : followV t best [] s (x :: tr) = none := by
          by_cases h1 : x = 1
          · subst h1; exact followV_end
          · exact followV_other hx2 h1
        rw [hno]
        exact follow_bad g B A n c t best hg i s x tr w hst hx2 (.inr hin)
  | cons z r ih =>
    intro i s tr w hrest hi hs0 hs1 hst hr
    have hrs : 0 ≤ (z :: r).sum := by
      rw [hrest]; exact sum_nonneg (fun x hx => hv.2 x (List.mem_of_mem_drop hx))
    rcases tr with _ | ⟨x, tr⟩
    · rw [followV_nil]; exact follow_nil g B A n c t best i s w hst
    · by_cases hx2 : x = 2
      · have := follow_leave g B A n c zs t best hg hl hc hv i s x tr w hi hs0 (by omega) hst hr hx2
        subst hx2
        rw [followV_leave, hrest]
        exact this
      · by_cases hx1 : x = 1
        · subst hx1
          have hn16 : n ≤ 16 := by rw [← hl]; exact hv.1
          rw [followV_take]
          show Calls _ _ _ _ (FollowPost w g B A n c t best (nextR (followV t best r (s + z) tr) (followV t best r s)))
          have HL := Lib.hid hl; clear hl
          have HV := Lib.hid hv; clear hv
          have IH := Lib.hid ih; clear ih
          have HRD := Lib.hid hr; clear hr
          have HRE := Lib.hid (drop_cons hrest); clear hrest
          have hin : i < n := by have := HRE.out.2.2; have := HL.out; omega
          have hz : Good z := HV.out.2 z (List.mem_of_getElem? HRE.out.1)
          have hrs' : 0 ≤ r.sum := sum_nonneg (fun x hx => HV.out.2 x (List.mem_of_mem_drop (by rw [← HRE.out.2.1]; exact hx)))
          simp only [List.sum_cons] at hs1 hrs
          unfold Good at hz
          obtain ⟨ad, m, tc, hB1, hcell, hadb, hm1, htc, hst2⟩ := cert_step hg hst
          have hgs := Blk.lt hB1
          have HST2 := Lib.hid hst2
          have HO := Lib.hid (only_setCell (p := ⟨g, 3, none⟩) (only_refl w (some g)) (.inl rfl) (.slice (cutA (some ad) tc 1 1) (m - 1) (tc - 1)))
          obtain ⟨bd, hA, hbdb, hcellz⟩ := HRD.out.at_ (k := i) (u := .int .i64 z) (by simp [HRE.out.1])
          subst hA
          have hcz : (w.setCell ⟨g, 3, none⟩ (.slice (cutA (some ad) tc 1 1) (m - 1) (tc - 1))).cell? (bd.add i) = some (.int .i64 z) :=
            (World.cell?_of_block (HO.out.block _ (by rw [block_of_add]; omega) (by rw [block_of_add]; intro h; injection h; omega))).trans hcellz
          have c0 := Blk.cell hB1 0
          have c3 := Blk.cell hB1 3
          have k3 := Blk.frozen hB1 3
          simp at c0 c3
          have hcut := run_cut el30 (some ad) m tc 1 (by omega) (by omega)
          simp only [show (1 : Int).toNat = 1 from rfl] at hcut
          have hne : ((m : Int) == 0) = false := by simp; omega
          clear hB1 hst hst2 hx2
          go_enter Try.func31, Try.ntmps31
          go_wp2_with fail
          rw [show ((i : Int) + 1) = ((i + 1 : Nat) : Int) from rfl]
          refine (IH.out (i + 1) (s + z) tr _ HRE.out.2.1 (by omega) (by omega) (by omega) HST2.out (HRD.out.grown HO.out (by omega) (by rintro k ⟨⟩; exact hg))).mono ?_
          rintro e w1 ⟨rfl, hg1, tr1, hst1, htr1⟩
          have HO1 := Lib.hid (only_trans HO.out hg1)
          have HST1 := Lib.hid hst1
          clear hg1 hst1 hcz c0 c3 k3 hcut hcell hcellz
          rcases hf : followV t best r (s + z) tr with _ | tr2
          · have HN := Lib.hid (show nextR (followV t best r (s + z) tr) (followV t best r s) = none by rw [hf]; rfl)
            simp only [Option.isSome_none]
            clear hf htr1
            go_wp2
            go_ret
            rw [HN.out]
            exact ⟨rfl, HO1.out, tr1, HST1.out, fun l h => by cases h⟩
          · obtain rfl := htr1 tr2 hf
            have HN := Lib.hid (show nextR (followV t best r (s + z) tr) (followV t best r s) = followV t best r s tr1 by rw [hf]; rfl)
            simp only [Option.isSome_some]
            clear hf htr1
            go_wp2_with fail
            rw [show ((i : Int) + 1) = ((i + 1 : Nat) : Int) from rfl]
            refine (IH.out (i + 1) s tr1 _ HRE.out.2.1 (by omega) (by omega) (by omega) HST1.out (HRD.out.grown HO1.out (by omega) (by rintro k ⟨⟩; exact hg))).mono ?_
            rintro e w2 ⟨rfl, hg2, tr3, hst3, htr3⟩
            have HF := Lib.hid (And.intro (only_trans HO1.out hg2) (And.intro hst3 htr3))
            clear hg2 hst3 htr3
            go_wp2
            go_ret
            rw [HN.out]
            exact ⟨rfl, HF.out.1, tr3, HF.out.2.1, HF.out.2.2⟩
        · have hno : followV t best (z :: r) s (x :: tr) = none := followV_other hx2 hx1
          rw [hno]
          exact follow_bad g B A n c t best hg i s x tr w hst hx2 (.inl hx1)
end Go.Proofs.Ytlajgdeoobmjjaa
