import Derived.Test.YtlajgdeoobmjjaaWalk
namespace Go.Proofs.Ytlajgdeoobmjjaa
open Go.RowKit
set_option linter.unusedVariables false

def followErr (r : Option (List Int)) : Int := match r with | none => 321 | some [] => 0 | some _ => 2
def selCheckV (zs : List Int) (t : Int) (ps : List Int) (s : Int) (tr : List Int) : Int :=
  if 16 < zs.length ∨ 16384 < tr.length then 4 else if checkV zs t ≠ 0 then checkV zs t else if properB zs ps s = false then 6 else if s < t then 320 else followErr (followV t s zs 0 tr)

theorem scv_limit {zs ps tr : List Int} {t s : Int} (h : 16 < zs.length ∨ 16384 < tr.length) : selCheckV zs t ps s tr = 4 := by rw [selCheckV, if_pos h]
theorem scv_check {zs ps tr : List Int} {t s : Int} (h : ¬ (16 < zs.length ∨ 16384 < tr.length)) (h1 : checkV zs t ≠ 0) : selCheckV zs t ps s tr = checkV zs t := by rw [selCheckV, if_neg h, if_pos h1]
theorem scv_proper {zs ps tr : List Int} {t s : Int} (h : ¬ (16 < zs.length ∨ 16384 < tr.length)) (h1 : checkV zs t = 0) (h2 : properB zs ps s = false) : selCheckV zs t ps s tr = 6 := by
  rw [selCheckV, if_neg h, if_neg (by simp [h1]), if_pos h2]
theorem scv_funds {zs ps tr : List Int} {t s : Int} (h : ¬ (16 < zs.length ∨ 16384 < tr.length)) (h1 : checkV zs t = 0) (h2 : properB zs ps s = true) (h3 : s < t) : selCheckV zs t ps s tr = 320 := by
  rw [selCheckV, if_neg h, if_neg (by simp [h1]), if_neg (by simp [h2]), if_pos h3]
theorem scv_follow {zs ps tr : List Int} {t s : Int} (h : ¬ (16 < zs.length ∨ 16384 < tr.length)) (h1 : checkV zs t = 0) (h2 : properB zs ps s = true) (h3 : ¬ s < t) : selCheckV zs t ps s tr = followErr (followV t s zs 0 tr) := by
  rw [selCheckV, if_neg h, if_neg (by simp [h1]), if_neg (by simp [h2]), if_neg h3]

set_option maxHeartbeats 1000000 in
theorem scheck_any (A pA tA : Option Addr) (n c m pc k tc : Nat) (zs ps tr : List Int) (t s : Int) (w : World) (B : Nat) (hB : B ≤ w.heap.size) (hr : Rd w B A (I64 zs)) (hp : Rd w B pA (I64 ps)) (htr : Rd w B tA (U8 tr))
    (hl : zs.length = n) (hc : n ≤ c) (hn : n ≤ maxLen) (hpl : ps.length = m) (hm : m ≤ maxLen) (htl : tr.length = k) (htc : k ≤ tc) :
    Calls Try.prog 14 #[.slice A n c, .int .i64 t, .agg #[.slice pA m pc, .int .i64 s], .slice tA k tc] w fun e w' => e = .returned (.int .i64 (selCheckV zs t ps s tr)) ∧ Below w.heap.size w w' := by
  have HR := Lib.hid (hr.alloc hB (.cells #[.slice pA m pc, .int .i64 s] 29))
  have HP := Lib.hid (hp.alloc hB (.cells #[.slice pA m pc, .int .i64 s] 29))
  have HT := Lib.hid (htr.alloc hB (.cells #[.slice pA m pc, .int .i64 s] 29))
  clear hr hp htr
  by_cases h0 : 16 < zs.length ∨ 16384 < tr.length
  · have HF := Lib.hid (scv_limit (t := t) (s := s) (ps := ps) h0)
    rw [hl, htl] at h0
    clear hl htl hpl
    by_cases h1 : 16 < n
    · clear h0
      go_enter Try.func14, Try.ntmps14
      go_wp2
      go_ret
      exact ⟨ret_int HF.out.symm, (Below.refl _ _).alloc (Nat.le_refl _) _⟩
    · have h2 : 16384 < k := by omega
      clear h0
      go_enter Try.func14, Try.ntmps14
      go_wp2
      go_ret
      exact ⟨ret_int HF.out.symm, (Below.refl _ _).alloc (Nat.le_refl _) _⟩
  · have h16 : n ≤ 16 := by omega
    have hk : k ≤ 16384 := by omega
    have HCH := Lib.hid (check_any A n c zs t _ B HR.out hl hn)
    by_cases h1 : checkV zs t = 0
    · obtain ⟨hv, ht⟩ := (checkV_ok zs t).1 h1
      have HPR := Lib.hid (sproper_any A pA n c m pc zs ps s _ B (by simp; omega) HR.out HP.out hl hpl hv hm)
      have hsum := sum_bd' zs hv
      have HFO := Lib.hid (fun g (hg : B ≤ g) (W : World) (hst : CertRd W g B A n c t s tr) (h : Rd W B A (I64 zs)) => follow_any g B A n c zs t s hg hl hc hv zs 0 0 tr W rfl (Nat.zero_le _) (by omega) (by omega) hst h)
      cases h2 : properB zs ps s with
      | false =>
        have HF := Lib.hid (scv_proper h0 h1 h2)
        rw [h1] at HCH
        rw [h2] at HPR
        clear h0 hl htl hpl h1 h2 hn hm
        go_enter Try.func14, Try.ntmps14
        go_wp2_with fail
        refine HCH.out.mono ?_
        rintro e w1 ⟨rfl, rfl⟩
        go_wp2_with fail
        refine HPR.out.mono ?_
        rintro e w1 ⟨rfl, hb1⟩
        go_wp2
        go_ret
        exact ⟨ret_int HF.out.symm, ((Below.refl _ _).alloc (Nat.le_refl _) _).trans (hb1.mono (by simp))⟩
      | true =>
        rw [h2] at HPR
        by_cases h3 : s < t
        · have HF := Lib.hid (scv_funds h0 h1 h2 h3)
          rw [h1] at HCH
          clear h0 hl htl hpl h1 h2 hn hm
          go_enter Try.func14, Try.ntmps14
          go_wp2_with fail
          refine HCH.out.mono ?_
          rintro e w1 ⟨rfl, rfl⟩
          go_wp2_with fail
          refine HPR.out.mono ?_
          rintro e w1 ⟨rfl, hb1⟩
          have hS : Blk w1 w.heap.size 29 #[.slice pA m pc, .int .i64 s] := (Blk.new w 29 _).below hb1 (by simp)
          have s1 := hS.cell 1
          simp at s1
          clear hS
          go_wp2
          go_ret
          exact ⟨ret_int HF.out.symm, ((Below.refl _ _).alloc (Nat.le_refl _) _).trans (hb1.mono (by simp))⟩
        · have HF := Lib.hid (scv_follow h0 h1 h2 h3)
          have HTL := Lib.hid htl
          rw [h1] at HCH
          clear h0 hl htl hpl h1 h2 hn hm
          go_enter Try.func14, Try.ntmps14
          go_wp2_with fail
          refine HCH.out.mono ?_
          rintro e w1 ⟨rfl, rfl⟩
          go_wp2_with fail
          refine HPR.out.mono ?_
          rintro e w1 ⟨rfl, hb1⟩
          have hS : Blk w1 w.heap.size 29 #[.slice pA m pc, .int .i64 s] := (Blk.new w 29 _).below hb1 (by simp)
          have s1 := hS.cell 1
          simp at s1
          have hz1 : w.heap.size + 1 ≤ w1.heap.size := by have := hb1.size; simpa using this
          have HB1 := Lib.hid (show Below w.heap.size w w1 from ((Below.refl _ _).alloc (Nat.le_refl _) _).trans (hb1.mono (by simp)))
          have HR1 := Lib.hid (HR.out.below hb1 (by simp; omega))
          have HT1 := Lib.hid (HT.out.below hb1 (by simp; omega))
          clear hS hb1
          go_wp2_with fail
          refine (HFO.out w1.heap.size (by omega) _ ⟨tA, tc, ?_, by rw [HTL.out]; exact htc, HT1.out.alloc (by omega) _⟩ (HR1.out.alloc (by omega) _)).mono ?_
          · rw [HTL.out]; exact Blk.new_ rfl
          rintro e w2 ⟨rfl, hg2, tr2, ⟨tA2, tc2, hB2, _, _⟩, hfr⟩
          have t3 := Blk.cell hB2 3
          simp at t3
          have HB2 := Lib.hid (HB1.out.trans (((Below.refl _ w1).alloc (Nat.le_refl _) _).grown hg2 (by simp) (by rintro g ⟨⟩; exact Nat.le_refl _) |>.mono (by omega)))
          clear hB2 hg2
          rcases hf : followV t s zs 0 tr with _ | l
          · have HF2 := Lib.hid (show selCheckV zs t ps s tr = 321 by rw [HF.out, hf]; rfl)
            simp only [Option.isSome_none]
            clear hf hfr
            go_wp2
            go_ret
            exact ⟨ret_int HF2.out.symm, HB2.out⟩
          · obtain rfl := hfr l hf
            simp only [Option.isSome_some]
            rcases tr2 with _ | ⟨x, l⟩
            · have HF2 := Lib.hid (show selCheckV zs t ps s tr = 0 by rw [HF.out, hf]; rfl)
              clear hf hfr
              simp only [List.length_nil] at t3
              go_wp2
              go_ret
              exact ⟨ret_int HF2.out.symm, HB2.out⟩
            · have HF2 := Lib.hid (show selCheckV zs t ps s tr = 2 by rw [HF.out, hf]; rfl)
              clear hf hfr
              obtain ⟨ll, hll, hll0⟩ : ∃ ll, (x :: l).length = ll ∧ 0 < ll := ⟨_, rfl, by simp⟩
              rw [hll] at t3
              clear hll
              go_wp2
              go_ret
              exact ⟨ret_int HF2.out.symm, HB2.out⟩
    · have HF := Lib.hid (scv_check (t := t) (s := s) (ps := ps) h0 h1)
      generalize checkV zs t = x at *
      have hd : (x != 0) = true := by simp [bne_iff_ne, h1]
      clear h0 hl htl hpl h1
      go_enter Try.func14, Try.ntmps14
      go_wp2_with fail
      refine HCH.out.mono ?_
      rintro e w1 ⟨rfl, rfl⟩
      go_wp2
      go_ret
      exact ⟨ret_int HF.out.symm, (Below.refl _ _).alloc (Nat.le_refl _) _⟩
end Go.Proofs.Ytlajgdeoobmjjaa
