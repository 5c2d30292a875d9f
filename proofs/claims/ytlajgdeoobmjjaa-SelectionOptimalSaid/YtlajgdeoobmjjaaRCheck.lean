import Derived.Test.YtlajgdeoobmjjaaCheck
namespace Go.Proofs.Ytlajgdeoobmjjaa
open Go.RowKit
set_option linter.unusedVariables false

theorem rproper_true {zs ps : List Int} {s : Int} (h : okPre zs.length ps ps.length) (hs : psum zs ps = s) : properB zs ps s = true := by rw [proper_end h]; simpa using hs
theorem rproper_false {zs ps : List Int} {s : Int} (h : okPre zs.length ps ps.length) (hs : psum zs ps ≠ s) : properB zs ps s = false := by rw [proper_end h]; simpa using hs

set_option maxHeartbeats 2000000 in
theorem rcheck_any (A pA tA : Option Addr) (n c m pc k tc : Nat) (zs ps tr : List Int) (t s : Int) (w : World) (B : Nat) (hB : B ≤ w.heap.size) (hr : Rd w B A (I64 zs)) (hp : Rd w B pA (I64 ps)) (htr : Rd w B tA (U8 tr))
    (hl : zs.length = n) (hc : n ≤ c) (hn : n ≤ maxLen) (hpl : ps.length = m) (hm : m ≤ maxLen) (htl : tr.length = k) (htc : k ≤ tc) :
    Calls Try.prog 15 #[.slice A n c, .int .i64 t, .agg #[.slice pA m pc, .int .i64 s], .slice tA k tc] w fun e w' => e = .returned (.int .i64 (selCheckV zs t ps s tr)) ∧ Below w.heap.size w w' := by
  have HR := Lib.hid (hr.alloc hB (.cells #[.slice pA m pc, .int .i64 s] 29))
  have HP := Lib.hid (hp.alloc hB (.cells #[.slice pA m pc, .int .i64 s] 29))
  have HT := Lib.hid (htr.alloc hB (.cells #[.slice pA m pc, .int .i64 s] 29))
  clear hr hp htr
  by_cases h0 : 16 < zs.length ∨ 16384 < tr.length
  · have HF := Lib.hid (scv_limit (t := t) (s := s) (ps := ps) h0)
    rw [hl, htl] at h0
    clear hl htl hpl
    by_cases h1 : 16 < n
    · clear h0
      go_enter Try.func15, Try.ntmps15
      go_wp2
      go_ret
      exact ⟨ret_int HF.out.symm, (Below.refl _ _).alloc (Nat.le_refl _) _⟩
    · have h2 : 16384 < k := by omega
      clear h0
      go_enter Try.func15, Try.ntmps15
      go_wp2
      go_ret
      exact ⟨ret_int HF.out.symm, (Below.refl _ _).alloc (Nat.le_refl _) _⟩
  · have h16 : n ≤ 16 := by omega
    have hk : k ≤ 16384 := by omega
    unfold maxLen at hm
    have HCH := Lib.hid (proper_any A n c zs t _ B HR.out hl hn)
    by_cases h1 : checkV zs t = 0
    · obtain ⟨hv, ht⟩ := (checkV_ok zs t).1 h1
      have hsum := sum_bd' zs hv
      have HW := Lib.hid (fun (W : World) (hA : Rd W B A (I64 zs)) (hT : Rd W B tA (U8 tr)) => walk_any A tA n c k tc zs tr t s W B hA hl hc hv hT htl (by omega) zs 0 0 0 rfl (Nat.zero_le _) (Nat.zero_le _) (by omega) (by omega))
      have HF0 := Lib.hid (fun h2 => scv_proper (ps := ps) (s := s) h0 h1 h2)
      have HF1 := Lib.hid (fun h2 h3 => scv_funds (ps := ps) (s := s) h0 h1 h2 h3)
      have HF2 := Lib.hid (fun h2 h3 => scv_follow (ps := ps) (s := s) h0 h1 h2 h3)
      have HV := Lib.hid hv.2
      have HL := Lib.hid hl
      have HPL := Lib.hid hpl
      have HTL := Lib.hid htl
      rw [h1] at HCH
      clear h0 hl htl hpl h1 hv hn
      go_enter Try.func15, Try.ntmps15
      go_wp2_with fail
      refine HCH.out.mono ?_
      rintro e w1 ⟨rfl, rfl⟩
      go_wp2_with fail
      go_loopw [10, 11] (fun a i wr => ∃ j : Nat, j ≤ m ∧ i = .int .i64 j ∧ a = .int .i64 (psum zs (ps.take j)) ∧ Hid (okPre n ps j) ∧ ∃ d, wr = (w.alloc (.cells #[.slice pA m pc, .int .i64 s] 29)).drewN d) (fun _ i _ => m - (intOf i).toNat)
      case atStart => exact ⟨0, Nat.zero_le _, rfl, by simp [psum], fun j hj => absurd hj (by omega), 0, rfl⟩
      case round =>
        obtain ⟨j, hj, rfl, rfl, HO, d, rfl⟩ := hrel
        have hjn := okPre_k HO.out
        have hps := psum_bd (zs := zs) (ps := ps) (k := j) HV.out (by rw [HPL.out]; exact hj) (by rw [HL.out]; exact HO.out)
        by_cases hlt : j < m
        · have hjp : j < ps.length := by rw [HPL.out]; exact hlt
          have HG := Lib.hid (show ps.getD j 0 = ps[j] by simp [List.getD, hjp])
          obtain ⟨ad, hA, hadb, hcell⟩ := HP.out.at_ (get_i64 hjp)
          have HBAD := Lib.hid (fun h => HF0.out (proper_bad (zs := zs) (ps := ps) (s := s) hjp h))
          have HSU := Lib.hid (psum_succ zs ps j hjp)
          have hOK : Hid (okAt n ps j = (decide (0 ≤ ps[j]) && decide (ps[j] < n) && (decide (j = 0) || decide (ps.getD (j - 1) 0 < ps[j])))) := by
            unfold Hid okAt; rw [HG.out]
          rw [HG.out] at HSU
          rw [HL.out] at HBAD
          subst hA
          generalize ps[j] = p at *
          by_cases hp0 : p < 0
          · have HF := Lib.hid (HBAD.out (by rw [hOK.out]; simp; omega))
            have hd1 : decide (p < 0) = true := by simpa using hp0
            go_wp2_with fail
            go_quiet (fail)
            go_wp2
            go_ret
            exact ⟨ret_int HF.out.symm, below_drewN (below_drewN ((Below.refl _ _).alloc (Nat.le_refl _) _) _) _⟩
          · obtain ⟨p, rfl⟩ := Int.eq_ofNat_of_zero_le (show 0 ≤ p by omega)
            have hd1 : decide ((p : Int) < 0) = false := by simp
            by_cases hpn : n ≤ p
            · have HF := Lib.hid (HBAD.out (by rw [hOK.out]; simp; omega))
              have hd2 : decide (n ≤ p) = true := by simpa using hpn
              go_wp2_with fail
              go_quiet (fail)
              go_wp2
              go_ret
              exact ⟨ret_int HF.out.symm, below_drewN (below_drewN ((Below.refl _ _).alloc (Nat.le_refl _) _) _) _⟩
            · have hd2 : decide (n ≤ p) = false := by simpa using hpn
              have hpz : p < zs.length := by rw [HL.out]; omega
              obtain ⟨bd, hA, hbdb, hcellz⟩ := HR.out.at_ (get_i64 hpz)
              have hgood := HV.out zs[p] (List.getElem_mem hpz)
              have HZ := Lib.hid (show zs.getD (p : Int).toNat 0 = zs[p] by simp [List.getD, hpz])
              rw [HZ.out] at HSU
              unfold Good at hgood
              generalize zs[p] = z at *
              subst hA
              by_cases hk0 : j = 0
              · have HN := Lib.hid (okPre_succ HO.out (by rw [hOK.out]; simp [hk0]; omega))
                have hd0 : decide (0 < j) = false := by simp; omega
                have hk1 : j ≤ 0 := by omega
                clear hk0
                go_wp2_with fail
                go_quiet (fail)
                go_wp2
                go_roundw
                case rel => exact ⟨j + 1, by omega, by go_num, by rw [HSU.out], HN.out, _, rfl⟩
                case measure => simp [intOf]; omega
              · have hjp1 : j - 1 < ps.length := by omega
                obtain ⟨ad', hA, _, hcell'⟩ := HP.out.at_ (get_i64 hjp1)
                injection hA with hA
                subst hA
                have HG' := Lib.hid (show ps.getD (j - 1) 0 = ps[j - 1] by simp [List.getD, hjp1])
                rw [HG'.out] at hOK
                generalize ps[j - 1] = q at *
                have hk1 : 1 ≤ j := by omega
                have hd0 : decide (0 < j) = true := by simp; omega
                have q1 : IntKind.i64.wrap ((j : Int) - 1) = (j : Int) - 1 := IntWalk.i64_in _ (by omega)
                have q2 : ((j : Int) - 1).toNat = j - 1 := by omega
                have q3 : (0 : Int) ≤ (j : Int) - 1 := by omega
                by_cases hq : (p : Int) ≤ q
                · have HF := Lib.hid (HBAD.out (by rw [hOK.out]; simp [hk0]; omega))
                  have hd3 : decide ((p : Int) ≤ q) = true := by simpa using hq
                  clear hk0
                  go_wp2_with fail
                  go_quiet (fail)
                  go_wp2
                  go_ret
                  exact ⟨ret_int HF.out.symm, below_drewN (below_drewN ((Below.refl _ _).alloc (Nat.le_refl _) _) _) _⟩
                · have HN := Lib.hid (okPre_succ HO.out (by rw [hOK.out]; simp [hk0]; omega))
                  have hd3 : decide ((p : Int) ≤ q) = false := by simpa using hq
                  clear hk0
                  go_wp2_with fail
                  go_quiet (fail)
                  clear q1 q2 q3
                  go_wp2
                  go_roundw
                  case rel => exact ⟨j + 1, by omega, by go_num, by rw [HSU.out], HN.out, _, rfl⟩
                  case measure => simp [intOf]; omega
        · have e : m = j := by omega
          have HOA := Lib.hid (show okPre zs.length ps ps.length by rw [HL.out, HPL.out, e]; exact HO.out)
          have hte : ps.take j = ps := List.take_of_length_le (by rw [HPL.out]; omega)
          rw [hte] at hps ⊢
          clear hte e
          have HPS := Lib.hid (show psum zs ps = s → properB zs ps s = true from rproper_true HOA.out)
          have HPF := Lib.hid (show psum zs ps ≠ s → properB zs ps s = false from rproper_false HOA.out)
          generalize psum zs ps = su at *
          by_cases hsu : su = s
          · subst hsu
            have HPT := Lib.hid (HPS.out rfl)
            have hd1 : (su != su) = false := by simp
            by_cases h3 : su < t
            · have HF := Lib.hid (HF1.out HPT.out h3)
              go_wp2
              go_ret
              exact ⟨ret_int HF.out.symm, below_drewN ((Below.refl _ _).alloc (Nat.le_refl _) _) _⟩
            · have HF := Lib.hid (HF2.out HPT.out (by omega))
              go_wp2_with fail
              refine (HW.out _ (HR.out.drewN d) (HT.out.drewN d)).mono ?_
              rintro e w2 ⟨rfl, rfl⟩
              rcases hf : followV t su zs 0 tr with _ | l
              · have HF3 := Lib.hid (show selCheckV zs t ps su tr = 321 by rw [HF.out, hf]; rfl)
                simp only [List.drop_zero, hf, walkPos, walkErr]
                clear hf
                go_wp2
                go_ret
                exact ⟨ret_int HF3.out.symm, below_drewN ((Below.refl _ _).alloc (Nat.le_refl _) _) _⟩
              · have HLN := Lib.hid (followV_len t su zs 0 tr l hf)
                simp only [List.drop_zero, hf, walkPos, walkErr]
                rcases l with _ | ⟨x, l⟩
                · have HF3 := Lib.hid (show selCheckV zs t ps su tr = 0 by rw [HF.out, hf]; rfl)
                  have hd5 : ((k : Int) != (k : Int)) = false := by simp
                  clear hf
                  simp only [List.length_nil]
                  rw [show (k : Int) - ((0 : Nat) : Int) = (k : Int) by omega]
                  go_wp2
                  go_ret
                  exact ⟨ret_int HF3.out.symm, below_drewN ((Below.refl _ _).alloc (Nat.le_refl _) _) _⟩
                · have HF3 := Lib.hid (show selCheckV zs t ps su tr = 2 by rw [HF.out, hf]; rfl)
                  obtain ⟨ll, hll, hll0⟩ : ∃ ll, (x :: l).length = ll ∧ 0 < ll := ⟨_, rfl, by simp⟩
                  rw [hll]
                  have hd5 : ((k : Int) - (ll : Int) != (k : Int)) = true := by rw [bne_iff_ne]; omega
                  clear hf hll
                  go_wp2
                  go_ret
                  exact ⟨ret_int HF3.out.symm, below_drewN ((Below.refl _ _).alloc (Nat.le_refl _) _) _⟩
          · have HF := Lib.hid (HF0.out (HPF.out hsu))
            have hd1 : (su != s) = true := by simp [bne_iff_ne, hsu]
            clear hsu
            go_wp2
            go_ret
            exact ⟨ret_int HF.out.symm, below_drewN ((Below.refl _ _).alloc (Nat.le_refl _) _) _⟩
    · have HF := Lib.hid (scv_check (t := t) (s := s) (ps := ps) h0 h1)
      generalize checkV zs t = x at *
      have hd : (x != 0) = true := by simp [bne_iff_ne, h1]
      clear h0 hl htl hpl h1
      go_enter Try.func15, Try.ntmps15
      go_wp2_with fail
      refine HCH.out.mono ?_
      rintro e w1 ⟨rfl, rfl⟩
      go_wp2
      go_ret
      exact ⟨ret_int HF.out.symm, (Below.refl _ _).alloc (Nat.le_refl _) _⟩
end Go.Proofs.Ytlajgdeoobmjjaa
