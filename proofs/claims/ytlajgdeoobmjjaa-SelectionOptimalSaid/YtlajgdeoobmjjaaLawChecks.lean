import Derived.Test.YtlajgdeoobmjjaaRCheck
import Derived.Deep.DeepCutAuto
namespace Go.Proofs.Ytlajgdeoobmjjaa
open Go.RowKit
set_option linter.unusedVariables false

theorem best_len2 (zs : List Int) (t : Int) : (bestV zs t).places.length ≤ 16 := by
  rw [best_eq]
  unfold rbestV
  by_cases hc : checkV zs t = 0
  · obtain ⟨hv, ht⟩ := (checkV_ok zs t).1 hc
    simp only [hc]
    by_cases hf : zs.sum < t
    · simp [hf, failR]
    · simp only [hf]
      unfold rbestOk
      by_cases h : 16384 < (branchV t (leastV t zs 0 zs.sum) zs 0 []).length
      · simp [h, failR]
      · simp only [h]
        rcases hp : placesV zs 0 (leastV t zs 0 zs.sum) with _ | l
        · simp
        · have := placesV_len _ _ _ _ hp
          have := hv.1
          simp; omega
  · simp [hc, failR]

theorem rbest_trace (zs : List Int) (t : Int) : (rbestV zs t).trace.length ≤ 16384 := by
  unfold rbestV
  by_cases hc : checkV zs t = 0
  · simp only [hc]
    by_cases hf : zs.sum < t
    · simp [hf, failR]
    · simp only [hf]
      unfold rbestOk
      by_cases h : 16384 < (branchV t (leastV t zs 0 zs.sum) zs 0 []).length
      · simp [h, failR]
      · simp only [h]; simp; omega
  · simp [hc, failR]

/-- bytes that can be read -/
def IsBytes (w : World) (B : Nat) (v : Value) : Prop := ∃ A n c xs, v = .slice A n c ∧ Rd w B A (U8 xs) ∧ xs.length = n ∧ n ≤ c
theorem IsBytes.below {w w' : World} {B C : Nat} {v : Value} (h : IsBytes w B v) (hb : Below C w w') (hC : B ≤ C) : IsBytes w' B v := by
  obtain ⟨A, n, c, zs, rfl, h1, h2, h3⟩ := h
  exact ⟨A, n, c, zs, rfl, h1.below hb hC, h2, h3⟩
theorem IsBytes.more {w : World} {B C : Nat} {v : Value} (h : IsBytes w B v) (hC : B ≤ C) : IsBytes w C v := by
  obtain ⟨A, n, c, zs, rfl, h1, h2, h3⟩ := h
  exact ⟨A, n, c, zs, rfl, h1.more hC, h2, h3⟩
theorem IsBytes.own {w : World} {base : Nat} {v : Value} {n : Nat} {xs : List Int} (h : w.ownsRow base 5 1 v n (U8 xs)) : IsBytes w w.heap.size v := by
  obtain ⟨A, c, rfl, hc⟩ := slice_of_own h
  exact ⟨A, n, c, xs, rfl, Rd.of_own h, by have := h.1; simpa using this, hc⟩
/-- the places of a selection that can be read -/
def IsPlaces (w : World) (B : Nat) (v : Value) : Prop := ∃ A n c xs, v = .slice A n c ∧ Rd w B A (I64 xs) ∧ xs.length = n ∧ n ≤ 1000
theorem IsPlaces.below {w w' : World} {B C : Nat} {v : Value} (h : IsPlaces w B v) (hb : Below C w w') (hC : B ≤ C) : IsPlaces w' B v := by
  obtain ⟨A, n, c, zs, rfl, h1, h2, h3⟩ := h
  exact ⟨A, n, c, zs, rfl, h1.below hb hC, h2, h3⟩
theorem IsPlaces.more {w : World} {B C : Nat} {v : Value} (h : IsPlaces w B v) (hC : B ≤ C) : IsPlaces w C v := by
  obtain ⟨A, n, c, zs, rfl, h1, h2, h3⟩ := h
  exact ⟨A, n, c, zs, rfl, h1.more hC, h2, h3⟩

theorem own_take {w : World} {base g n k cap : Nat} {xs : List Int} (h : w.ownsRow base 5 1 (.slice (some ⟨g, 0, none⟩) n cap) n (U8 xs)) (hk : k ≤ n) : w.ownsRow base 5 1 (.slice (some ⟨g, 0, none⟩) k cap) k (U8 (xs.take k)) := by
  obtain ⟨h1, h2⟩ := h
  rcases h2 with ⟨h, _⟩ | ⟨g', cap', cur, hv, hb, hh, hn, hm, hs, ht⟩
  · cases h
  · cases hv
    have hl : xs.length = n := by simpa using h1
    refine ⟨by simp; omega, .inr ⟨g, cap, cur, rfl, hb, hh, by omega, hm, hs, ?_⟩⟩
    have := congrArg (List.take k) ht
    rw [List.take_take] at this
    rw [show k * 1 = min k (n * 1) by omega, this]
    simp [U8]

theorem own_empty {w : World} {base g : Nat} (h : Blk w g 5 #[]) (hb : base ≤ g) : w.ownsRow base 5 1 (.slice (some ⟨g, 0, none⟩) 0 0) 0 [] :=
  ⟨rfl, .inr ⟨g, 0, #[], rfl, hb, h, Nat.le_refl _, by unfold maxLen; omega, rfl, rfl⟩⟩
theorem blk_after {w w' : World} {row : Option Nat} {g : Nat} {t : TypeId} {a b : Value} (hg : w.grownBy w' row) (h : Blk w g t #[a, b]) (hne : some g ≠ row) :
    w'.cell? ⟨g, 0, none⟩ = some a ∧ w'.cell? ⟨g, 1, none⟩ = some b ∧ w'.frozen? ⟨g, 0, none⟩ = false ∧ w'.frozen? ⟨g, 1, none⟩ = false ∧ Blk w' g t #[a, b] := by
  have h1 := h.grown hg hne
  exact ⟨by rw [h1.cell 0]; rfl, by rw [h1.cell 1]; rfl, h1.frozen 0, h1.frozen 1, h1⟩
theorem below_grow {B : Nat} {a w w' : World} {row : Option Nat} (hg : w.grownBy w' row) (h : Below B a w) (hB : B ≤ w.heap.size) (hr : ∀ k, row = some k → B ≤ k) : Below B a w' := h.grown hg hB hr

/-- what the law's middle part leaves: the selection x in block gX, the row of c -/
def MidSt (L : Nat) (w0 : World) (gX : Nat) (p s17 : Value) (wx : World) : Prop :=
  ∃ cl sum', wx.ownsRow w0.heap.size 5 1 s17 cl.length (U8 cl) ∧ cl.length ≤ L ∧ Blk wx gX 29 #[p, .int .i64 sum'] ∧ w0.heap.size ≤ gX ∧ Below w0.heap.size w0 wx

theorem mid_a {w4 w5 : World} {v5 p : Value} {tr : List Int} {s : Int} (hown : w5.ownsRow w4.heap.size 5 1 v5 (0 + tr.length) ([] ++ U8 tr)) (hl : tr.length ≤ 16384) (hb : Below w4.heap.size w4 w5) :
    MidSt 16384 w4 w5.heap.size p v5 (w5.alloc (.cells #[p, .int .i64 s] 29)) :=
  ⟨tr, s, by simpa using hown.alloc _, by omega, Blk.new _ _ _, hb.size, hb.alloc hb.size _⟩
theorem mid_b {w4 w5 : World} {v5 p a b : Value} {tr : List Int} {s : Int} {g : Nat} (hown : w5.ownsRow w4.heap.size 5 1 v5 (0 + tr.length) ([] ++ U8 tr)) (hl : tr.length ≤ 16384) (hb : Below w4.heap.size w4 w5) (hB : Blk w5 g 29 #[a, b]) (hg : w4.heap.size ≤ g) :
    MidSt 16384 w4 g p v5 ((w5.setCell ⟨g, 0, none⟩ p).setCell ⟨g, 1, none⟩ (.int .i64 s)) := by
  refine ⟨tr, s, ?_, by omega, by simpa using (hB.set_ 0 p).set_ 1 (.int .i64 s), hg, (hb.setCell (p := ⟨g, 0, none⟩) hg _).setCell (p := ⟨g, 1, none⟩) hg _⟩
  have := own_setCell_far (i := 1) (own_setCell_far (i := 0) hown hB (by decide) p) (hB.set_ 0 p) (by decide) (.int .i64 s)
  simpa using this

theorem mid_keep {w4 wc : World} {gX : Nat} {p s17 : Value} {cl : List Int} {sum' : Int} (hown : wc.ownsRow w4.heap.size 5 1 s17 cl.length (U8 cl)) (hl : cl.length ≤ 20000) (hB : Blk wc gX 29 #[p, .int .i64 sum']) (hg : w4.heap.size ≤ gX) (hb : Below w4.heap.size w4 wc) : MidSt 20000 w4 gX p s17 wc :=
  ⟨cl, sum', hown, hl, hB, hg, hb⟩
theorem mid_store {w4 wc : World} {gX g j cm cap : Nat} {p : Value} {cl : List Int} {sum' x : Int} (hown : wc.ownsRow w4.heap.size 5 1 (.slice (some ⟨g, 0, none⟩) cm cap) cm (U8 cl)) (hl : cl.length ≤ 20000) (hcm : cl.length = cm) (hB : Blk wc gX 29 #[p, .int .i64 sum']) (hg : w4.heap.size ≤ gX) (hb : Below w4.heap.size w4 wc) :
    MidSt 20000 w4 gX p (.slice (some ⟨g, 0, none⟩) cm cap) (wc.setCell ⟨g, j, none⟩ (.int .u8 x)) := by
  obtain ⟨h1, h2⟩ := hown.stored j (.int .u8 x)
  have hgg := (hown.lt g rfl).1
  refine ⟨cl.set j x, sum', ?_, by simpa using hl, hB.grown h2 ?_, hg, hb.setCell (p := ⟨g, j, none⟩) hgg _⟩
  · rw [List.length_set, hcm, U8, List.map_set]; exact h1
  · have := own_blk_ne hown hB (by decide)
    simpa [Value.ownBlock] using fun h => this (by simp [Value.ownBlock, h])
theorem mid_sum {w4 wc : World} {gX : Nat} {p s17 : Value} {cl : List Int} {sum' x : Int} (hown : wc.ownsRow w4.heap.size 5 1 s17 cl.length (U8 cl)) (hl : cl.length ≤ 20000) (hB : Blk wc gX 29 #[p, .int .i64 sum']) (hg : w4.heap.size ≤ gX) (hb : Below w4.heap.size w4 wc) :
    MidSt 20000 w4 gX p s17 (wc.setCell ⟨gX, 1, none⟩ (.int .i64 x)) :=
  ⟨cl, x, own_setCell_far hown hB (by decide) _, hl, by simpa using hB.set_ 1 (.int .i64 x), hg, hb.setCell (p := ⟨gX, 1, none⟩) hg _⟩
theorem mid_push {w4 wc w6 : World} {gX : Nat} {p s17 v6 : Value} {cl : List Int} {sum' x : Int} (hown : wc.ownsRow w4.heap.size 5 1 s17 cl.length (U8 cl)) (hl : cl.length ≤ 19999) (hB : Blk wc gX 29 #[p, .int .i64 sum']) (hg : w4.heap.size ≤ gX) (hb : Below w4.heap.size w4 wc)
    (hown6 : w6.ownsRow w4.heap.size 5 1 v6 (cl.length + 1) (U8 cl ++ [.int .u8 x])) (hg6 : wc.grownBy w6 s17.ownBlock) : MidSt 20000 w4 gX p v6 w6 :=
  ⟨cl ++ [x], sum', by simpa using hown6, by simp; omega, hB.grown hg6 (own_blk_ne hown hB (by decide)).symm, hg, hb.grown hg6 hb.size (fun k hk => (hown.lt k hk).1)⟩

theorem MidSt.drew {L : Nat} {w0 w : World} {gX : Nat} {p s17 : Value} (h : MidSt L w0 gX p s17 w) : MidSt L w0 gX p s17 w.drew := by
  obtain ⟨cl, sum', h1, h2, h3, h4, h5⟩ := h
  exact ⟨cl, sum', h1, h2, h3, h4, h5.drew⟩

set_option maxRecDepth 100000 in
set_option maxHeartbeats 2000000 in
theorem selectionChecks_any (A0 A1 A4 : Option Addr) (n0 c0 n1 c1 n4 c4 : Nat) (ls trc ps : List Int) (what at_ : Int) (sm : Int) (w : World) (hr0 : Rd w w.heap.size A0 (I64 ls)) (hl0 : ls.length = n0) (hm0 : n0 ≤ maxLen)
    (hr1 : Rd w w.heap.size A1 (U8 trc)) (hl1 : trc.length = n1) (hc1 : n1 ≤ c1) (hr4 : Rd w w.heap.size A4 (I64 ps)) (hl4 : ps.length = n4) :
    Calls Try.prog 4 #[.slice A0 n0 c0, .slice A1 n1 c1, .int .i64 what, .int .i64 at_, .agg #[.slice A4 n4 c4, .int .i64 sm]] w fun e w' => e = .returned (.bool true) ∧ Below w.heap.size w w' := by
  have HR0 := Lib.hid hr0; clear hr0
  have HL0 := Lib.hid hl0; clear hl0
  have HR1 := Lib.hid (show IsBytes w w.heap.size (.slice A1 n1 c1) from ⟨A1, n1, c1, trc, rfl, hr1, hl1, hc1⟩); clear hr1 hl1
  have HR4 := Lib.hid (fun (h : n4 ≤ 1000) => show IsPlaces w w.heap.size (.slice A4 n4 c4) from ⟨A4, n4, c4, ps, rfl, hr4, hl4, h⟩); clear hr4 hl4
  by_cases h200 : 200 < n1
  · go_enter Try.func4, Try.ntmps4
    go_wp2_with fail
    refine (sane_any _).mono ?_
    rintro e w1 ⟨rfl, hb1⟩
    go_wp2
    go_ret
    exact ⟨rfl, ((Below.refl _ _).alloc (Nat.le_refl _) _).trans (hb1.mono (by simp))⟩
  · by_cases h20 : 20 < n4
    · go_enter Try.func4, Try.ntmps4
      go_wp2_with fail
      refine (sane_any _).mono ?_
      rintro e w1 ⟨rfl, hb1⟩
      have hS : Blk w1 w.heap.size 29 #[.slice A4 n4 c4, .int .i64 sm] := (Blk.new w 29 _).below hb1 (by simp)
      have s0 := hS.cell 0
      simp at s0
      clear hS
      go_wp2
      go_ret
      exact ⟨rfl, ((Below.refl _ _).alloc (Nat.le_refl _) _).trans (hb1.mono (by simp))⟩
    · have hd200 : decide ((200 : Int) < (n1 : Int)) = false := by simp; omega
      have hd20 : decide ((20 : Int) < (n4 : Int)) = false := by simp; omega
      go_enter Try.func4, Try.ntmps4
      go_wp2_with fail
      refine (sane_any _).mono ?_
      rintro e w1 ⟨rfl, hb1⟩
      have hS : Blk w1 w.heap.size 29 #[.slice A4 n4 c4, .int .i64 sm] := (Blk.new w 29 _).below hb1 (by simp)
      have s0 := hS.cell 0
      simp at s0
      have hz1 : w.heap.size + 1 ≤ w1.heap.size := by have := hb1.size; simpa using this
      have HB1 := Lib.hid (show Below w.heap.size w w1 from ((Below.refl _ _).alloc (Nat.le_refl _) _).trans (hb1.mono (by simp)))
      have HS := Lib.hid hS
      clear hS hb1
      go_wp2_with fail
      refine (made_any A0 n0 c0 ls 7 w1 ((HR0.out.below HB1.out (Nat.le_refl _)).more (by omega)) HL0.out hm0 (by omega) (by omega)).mono ?_
      rintro e w2 ⟨v, rfl, hv, hb2⟩
      have hz2 := hb2.size
      have hk := (nextV_bd ls (7 + 1) (by omega))
      obtain ⟨vA, vc, rfl, hvc⟩ := slice_of_own hv
      have HV := Lib.hid (Rd.of_own hv)
      have HVL := Lib.hid (madeVals_len ls (madeK ls 7))
      have hkk : madeK ls 7 ≤ 8 := by unfold madeK; omega
      have HS2 := Lib.hid (HS.out.below hb2 (by omega))
      have HB2 := Lib.hid (HB1.out.trans (hb2.mono (by omega)))
      generalize madeT ls 7 = t1 at *
      generalize madeVals ls (madeK ls 7) = vs at *
      generalize madeK ls 7 = vn at *
      clear hv hb2 s0 hk
      go_wp2_with fail
      refine (rbest_any vA vn vc vs t1 w2 HV.out HVL.out hvc (by unfold maxLen; omega)).mono ?_
      rintro e w3 ⟨pv, tv, rfl, hpv, htv, hb3⟩
      have hz3 := hb3.size
      have hplen : (rbestV vs t1).places.length ≤ 16 := by rw [← best_eq]; exact best_len2 vs t1
      have htlen := rbest_trace vs t1
      generalize rbestV vs t1 = R at *
      obtain ⟨pA, pc, rfl, hpc⟩ := slice_of_own hpv
      obtain ⟨tA, tc, rfl, htc⟩ := slice_of_own htv
      have HP := Lib.hid (show IsPlaces w3 w3.heap.size (.slice pA R.places.length pc) from ⟨pA, _, pc, _, rfl, Rd.of_own hpv, rfl, by omega⟩)
      have HT := Lib.hid (Rd.of_own htv)
      have HV3 := Lib.hid (HV.out.below hb3 (Nat.le_refl _))
      have HS3 := Lib.hid (HS2.out.below hb3 (by omega))
      have HB3 := Lib.hid (HB2.out.trans (hb3.mono (by omega)))
      clear hpv htv hb3
      go_upto_region 7 with fail
      have HS4 := Lib.hid (HS3.out.alloc (.cells #[.slice pA R.places.length pc, .int .i64 R.sum] 29))
      have HX4 := Lib.hid (Blk.new w3 29 #[.slice pA R.places.length pc, .int .i64 R.sum])
      have HT4 := Lib.hid (HT.out.alloc (Nat.le_refl _) (.cells #[.slice pA R.places.length pc, .int .i64 R.sum] 29))
      have HV4 := Lib.hid ((HV3.out.alloc (by omega) (.cells #[.slice pA R.places.length pc, .int .i64 R.sum] 29)).more hz3)
      have HB4 := Lib.hid (HB3.out.trans (((Below.refl w3.heap.size w3).alloc (Nat.le_refl _) (.cells #[.slice pA R.places.length pc, .int .i64 R.sum] 29)).mono (by omega)))
      have HP4 := Lib.hid (HP.out.below ((Below.refl w3.heap.size w3).alloc (Nat.le_refl _) (.cells #[.slice pA R.places.length pc, .int .i64 R.sum] 29)) (Nat.le_refl _))
      obtain ⟨w4, hw4⟩ : ∃ w4, w4 = w3.alloc (.cells #[.slice pA R.places.length pc, .int .i64 R.sum] 29) := ⟨_, rfl⟩
      have hz4 : w3.heap.size + 1 = w4.heap.size := by rw [hw4]; simp
      rw [← hw4] at HS4 HX4 HT4 HV4 HB4 HP4
      rw [← hw4]
      clear hw4
      have x0 := HX4.out.cell 0
      have x1 := HX4.out.cell 1
      simp at x0 x1
      have HZ4 := Lib.hid hz4
      have hz5 : w3.heap.size < w4.heap.size := by omega
      clear hz4
      go_cut [16, 17] (fun s16 s17 wx => ∃ gX, s16 = .pointer (some ⟨gX, 0, none⟩) ∧ MidSt 16384 w4 gX (.slice pA R.places.length pc) s17 wx)
      case first =>
        go_region_held3 (fun w' => w'.cell? ⟨w3.heap.size, 0, none⟩ = some (.slice pA R.places.length pc) ∧ w'.cell? ⟨w3.heap.size, 1, none⟩ = some (.int .i64 R.sum)) (first | go_keep | assumption | (refine ⟨?_, ?_⟩ <;> (rw [World.cell?_setCell_other _ _ _ _ (by intro h; injection h; omega), World.cell?_setCell_other _ _ _ _ (by intro h; injection h; omega)]; assumption)))
          (first
          | ((refine step_pushAll _ rfl (.tmp 46) (.tmp 47) 30 rfl el30 w4.heap.size (.slice (some ⟨_, 0, none⟩) 0 0) 0 [] rfl (own_empty (by first | exact (Blk.new_ (by simp)).drew | exact ((Blk.new_ (by simp)).alloc _).drew) (by simp)) w3.heap.size tA R.trace.length tc (U8 R.trace) rfl (by first | exact (HT4.out.alloc (by omega) _).drew | exact ((HT4.out.alloc (by omega) _).alloc (by simp; omega) _).drew) (by simp) (one_map _ (fun _ => rfl) _) (by omega) (by first | (simp; done) | (simp; omega)) ?_; intro v5 w5 hown5 hg5 hat5; have hbl5 : Below w4.heap.size w4 w5 := below_grow hg5 (by repeat' (first | exact Below.refl _ _ | refine Below.drew ?_ | refine Below.alloc ?_ (by first | (simp; done) | (simp; omega)) _)) (by first | (simp; done) | (simp; omega)) (by simp [Value.ownBlock]); have y0 := (hbl5.cell (p := ⟨w3.heap.size, 0, none⟩) hz5).trans x0; have y1 := (hbl5.cell (p := ⟨w3.heap.size, 1, none⟩) hz5).trans x1; first | (have q0 := blk_after hg5 ((Blk.new w4 29 #[.slice none 0 0, .int .i64 0]).alloc (.cells #[] 5)).drew (by simp [Value.ownBlock]); obtain ⟨q1, q2, q3, q4, q5⟩ := q0) | (have q0 := blk_after hg5 (Blk.new_ (w := w4.alloc (.cells #[] 5)) (t := 29) (cs := #[.slice none 0 0, .int .i64 0]) (World.size_alloc _ _)).drew (by simp [Value.ownBlock]); obtain ⟨q1, q2, q3, q4, q5⟩ := q0) | skip)))
        · go_wp2_with fail
          go_meet
          exact ⟨_, rfl, mid_a hown5 htlen hbl5⟩
        · go_wp2_with fail
          go_meet
          exact ⟨_, rfl, mid_b hown5 htlen hbl5 q5 (by omega)⟩
        · go_wp2_with fail
          go_meet
          exact ⟨_, rfl, mid_b hown5 htlen hbl5 q5 (by omega)⟩
      case rest =>
        obtain ⟨gX, rfl, cl, sum', hown, hcl, hBX, hgX, hbc⟩ := hcut
        have HOW := Lib.hid hown
        obtain ⟨cA, cc, rfl, hcc⟩ := slice_of_own hown
        have HBX := Lib.hid hBX
        have HBC := Lib.hid hbc
        clear hown hBX hbc x0 x1
        obtain ⟨cm, hcm⟩ : ∃ cm, cl.length = cm := ⟨_, rfl⟩
        rw [hcm] at hcl hcc HOW
        rw [hcm]
        have HCM := Lib.hid hcm; clear hcm
        go_upto_if 51 with fail
        go_cut [17] (fun s17 wx => MidSt 20000 w4 gX (.slice pA R.places.length pc) s17 wx)
        case first =>
          by_cases hc0 : 0 < cm
          · have hm5 : 0 ≤ what % 5 ∧ what % 5 < 5 := by omega
            have HM5 := Lib.hid (mod_any what 5 wc (by omega) (by omega))
            have HMA := Lib.hid (mod_any at_ cm wc (by omega) (by omega))
            have hma : 0 ≤ at_ % (cm : Int) ∧ at_ % (cm : Int) < cm := ⟨Int.emod_nonneg _ (by omega), Int.emod_lt_of_pos _ (by omega)⟩
            have HM4 := Lib.hid (mod_any at_ 4 wc (by omega) (by omega))
            have hm4 : 0 ≤ at_ % 4 ∧ at_ % 4 < 4 := by omega
            have HM3 := Lib.hid (mod_any at_ 3 wc (by omega) (by omega))
            have hm3 : 0 ≤ at_ % 3 ∧ at_ % 3 < 3 := by omega
            obtain ⟨g, cap, hv, hg1, hg2⟩ := HOW.out.form (by omega)
            injection hv with hA hn1 hcap
            subst hA hcap
            clear hn1
            generalize what % 5 = m5 at *
            generalize at_ % (cm : Int) = ma at *
            generalize at_ % 4 = m4 at *
            generalize at_ % 3 = m3 at *
            obtain ⟨ma, rfl⟩ := Int.eq_ofNat_of_zero_le hma.1
            have hmac : ma < cm := by omega
            have hdc : decide ((0 : Int) < (cm : Int)) = true := by simp; omega
            by_cases e0 : m5 = 0
            · have d0 : (m5 == 0) = true := by simp [e0]
              clear e0
              have hcell := HOW.out.cellAt ma (by omega)
              have hfz := HOW.out.frozenAt ma
              have hal : ma < cl.length := by rw [HCM.out]; omega
              rw [show (U8 cl)[ma]? = some (.int .u8 cl[ma]) by simp [U8, hal]] at hcell
              generalize cl[ma] = old at *
              go_wp2_with fail
              refine HM5.out.mono ?_
              rintro e w6 ⟨rfl, rfl⟩
              go_wp2_with fail
              refine HMA.out.mono ?_
              rintro e w6 ⟨rfl, rfl⟩
              go_wp2_with fail
              refine HM4.out.mono ?_
              rintro e w6 ⟨rfl, rfl⟩
              go_wp2_with fail
              go_meet
              exact mid_store HOW.out (by rw [HCM.out]; omega) HCM.out HBX.out hgX HBC.out
            · have d0 : (m5 == 0) = false := by simp [e0]
              by_cases e1 : m5 = 1
              · have d1 : (m5 == 1) = true := by simp [e1]
                clear e0 e1
                go_wp2_with fail
                refine HM5.out.mono ?_
                rintro e w6 ⟨rfl, rfl⟩
                go_wp2_with fail
                refine HMA.out.mono ?_
                rintro e w6 ⟨rfl, rfl⟩
                go_wp2_with fail
                go_meet
                have ht := own_take (k := ma) HOW.out (by omega)
                have hlt : (cl.take ma).length = ma := by rw [List.length_take, HCM.out]; omega
                exact mid_keep (cl := cl.take ma) (by rw [hlt]; exact ht) (by rw [hlt]; omega) HBX.out hgX HBC.out
              · have d1 : (m5 == 1) = false := by simp [e1]
                by_cases e2 : m5 = 2
                · have d2 : (m5 == 2) = true := by simp [e2]
                  clear e0 e1 e2
                  go_wp2_with fail
                  refine HM5.out.mono ?_
                  rintro e w6 ⟨rfl, rfl⟩
                  go_wp2_with (at_builtin; refine wpList_push _ _ rfl (.tmp 75) (.tmp 76) 30 rfl el30 w4.heap.size (.slice (some ⟨g, 0, none⟩) cm cc) cm _ rfl HOW.out rfl rfl (one_int _ _) (by omega) HBC.out.size ?_; intro v6 w6 hown6 hg6 hat6)
                  go_meet
                  have h1 := HOW.out
                  rw [← HCM.out] at h1 hown6
                  exact mid_push h1 (by rw [HCM.out]; omega) HBX.out hgX HBC.out hown6 hg6
                · have d2 : (m5 == 2) = false := by simp [e2]
                  by_cases e3 : m5 = 3
                  · have d3 : (m5 == 3) = true := by simp [e3]
                    clear e0 e1 e2 e3
                    have y1 := HBX.out.cell 1
                    have z1 := HBX.out.frozen 1
                    simp at y1
                    go_wp2_with fail
                    refine HM5.out.mono ?_
                    rintro e w6 ⟨rfl, rfl⟩
                    go_wp2_with fail
                    go_region_with (go_at_call 13; refine (mod_any _ _ _ (by omega) (by omega)).mono ?_; rintro e w6 ⟨rfl, rfl⟩)
                    all_goals go_wp2_with fail
                    all_goals go_meet
                    all_goals exact (mid_sum (by rw [HCM.out]; exact HOW.out) (by rw [HCM.out]; omega) HBX.out hgX HBC.out).drew
                  · have d3 : (m5 == 3) = false := by simp [e3]
                    clear e0 e1 e2 e3
                    go_wp2_with fail
                    refine HM5.out.mono ?_
                    rintro e w6 ⟨rfl, rfl⟩
                    go_wp2_with fail
                    go_meet
                    exact mid_keep (by rw [HCM.out]; exact HOW.out) (by rw [HCM.out]; omega) HBX.out hgX HBC.out
          · have hdc : decide ((0 : Int) < (cm : Int)) = false := by simp; omega
            go_wp2_with fail
            go_meet
            exact mid_keep (by rw [HCM.out]; exact HOW.out) (by rw [HCM.out]; omega) HBX.out hgX HBC.out
        case rest =>
          obtain ⟨cl2, sum2, hown2, hcl2, hBX2, _, hb2⟩ := hcut
          have HC2 := Lib.hid (IsBytes.own hown2)
          obtain ⟨dA, dc, rfl, hdc⟩ := slice_of_own hown2
          have hzc := hb2.size
          have HBC2 := Lib.hid hb2
          have HRAW := Lib.hid (HS4.out.below hb2 (by omega))
          have HSX := Lib.hid (HX4.out.below hb2 (by omega))
          have HXX := Lib.hid hBX2
          have HV2 := Lib.hid (HV4.out.below hb2 (by omega))
          have HT2 := Lib.hid (show IsBytes wc wc.heap.size (.slice tA R.trace.length tc) from ⟨tA, _, tc, _, rfl, (HT4.out.below hb2 (by omega)).more (by omega), rfl, htc⟩)
          have HBW := Lib.hid (HB4.out.trans (hb2.mono (by omega)))
          have HR12 := Lib.hid ((HR1.out.below HBW.out (Nat.le_refl _)).more (show w.heap.size ≤ wc.heap.size by omega))
          have HR42 := Lib.hid (((HR4.out (by omega)).below HBW.out (Nat.le_refl _)).more (show w.heap.size ≤ wc.heap.size by omega))
          have HP2 := Lib.hid ((HP4.out.below hb2 (by omega)).more (show w3.heap.size ≤ wc.heap.size by omega))
          clear HBC HBX HOW HCM hcl hcc hown2 hBX2 hb2
          have a0 := HRAW.out.cell 0
          have a1 := HRAW.out.cell 1
          have b0 := HSX.out.cell 0
          have b1 := HSX.out.cell 1
          have d0 := HXX.out.cell 0
          have d1 := HXX.out.cell 1
          simp at a0 a1 b0 b1 d0 d1
          go_wp2_with fail
          clear a0 a1 b0 b1 d0 d1
          go_loopw [19, 21, 92] (fun _ _ i wr => ∃ k : Nat, k ≤ 3 ∧ i = .int .i64 k ∧ Below (wc.heap.size + 1) (wc.alloc (.cells #[.slice pA R.places.length pc, .int .i64 R.sum, .slice pA R.places.length pc, .int .i64 sum2, .slice A4 n4 c4, .int .i64 sm] 29)) wr) (fun _ _ i _ => 3 - (intOf i).toNat)
          case atStart => exact ⟨0, by omega, rfl, Below.refl _ _⟩
          case round =>
            obtain ⟨k, hk, rfl, hbo⟩ := hrel
            obtain ⟨wo, rfl⟩ : ∃ wo : World, wo = wr := ⟨_, rfl⟩
            have hzo : wc.heap.size + 1 ≤ wo.heap.size := by have := hbo.size; simpa using this
            by_cases hlt : k < 3
            · have hbo' : Below wc.heap.size wc wo := ((Below.refl _ wc).alloc (Nat.le_refl _) _).trans (hbo.mono (by omega))
              obtain ⟨yA, yn, yc, ys, ysum, hc0, hc1, hy⟩ : ∃ yA yn yc ys ysum, wo.cell? ⟨wc.heap.size, k * 2, none⟩ = some (.slice yA yn yc) ∧ wo.cell? ⟨wc.heap.size, k * 2 + 1, none⟩ = some (.int .i64 ysum) ∧ (Rd wo wc.heap.size yA (I64 ys) ∧ ys.length = yn ∧ yn ≤ 1000) := by
                have hB := (Blk.new wc 29 #[.slice pA R.places.length pc, .int .i64 R.sum, .slice pA R.places.length pc, .int .i64 sum2, .slice A4 n4 c4, .int .i64 sm]).below hbo (by omega)
                obtain ⟨A, n, c, zs, h0, h1⟩ := HP2.out.below hbo' (Nat.le_refl _)
                obtain ⟨A', n', c', zs', h0', h1'⟩ := HR42.out.below hbo' (Nat.le_refl _)
                rcases (show k = 0 ∨ k = 1 ∨ k = 2 by omega) with rfl | rfl | rfl
                · exact ⟨A, n, c, zs, R.sum, by rw [hB.cell, ← h0]; rfl, by rw [hB.cell]; rfl, h1⟩
                · exact ⟨A, n, c, zs, sum2, by rw [hB.cell, ← h0]; rfl, by rw [hB.cell]; rfl, h1⟩
                · exact ⟨A', n', c', zs', sm, by rw [hB.cell, ← h0']; rfl, by rw [hB.cell]; rfl, h1'⟩
              have hdk : decide ((k : Int) < 3) = true := by simp; omega
              have HY := Lib.hid hy
              have HBO := Lib.hid hbo
              have HBO' := Lib.hid hbo'
              clear hy hbo hbo'
              go_wp2_with fail
              go_loopw [21, 101] (fun _ i wr => ∃ j : Nat, j ≤ 3 ∧ i = .int .i64 j ∧ Below (wo.heap.size + 2) ((wo.alloc (.cells #[.slice yA yn yc, .int .i64 ysum] 29)).alloc (.cells #[.slice tA R.trace.length tc, .slice dA cl2.length dc, .slice A1 n1 c1] 30)) wr) (fun _ i _ => 3 - (intOf i).toNat)
              case atStart => exact ⟨0, by omega, rfl, Below.refl _ _⟩
              case round =>
                obtain ⟨j, hj, rfl, hbi⟩ := hrel
                have hzi : wo.heap.size + 2 ≤ wr.heap.size := by have := hbi.size; simpa using this
                have hbi' : Below wo.heap.size wo wr := (((Below.refl _ wo).alloc (Nat.le_refl _) _).alloc (by simp) _).trans (hbi.mono (by omega))
                by_cases hjt : j < 3
                · have hbc : Below wc.heap.size wc wr := HBO'.out.trans (hbi'.mono (by omega))
                  obtain ⟨zA, zn, zc, zs, hcz, hz⟩ : ∃ zA zn zc zs, wr.cell? ⟨wo.heap.size + 1, j, none⟩ = some (.slice zA zn zc) ∧ (Rd wr wc.heap.size zA (U8 zs) ∧ zs.length = zn ∧ zn ≤ zc) := by
                    have hB : Blk wr (wo.heap.size + 1) 30 #[.slice tA R.trace.length tc, .slice dA cl2.length dc, .slice A1 n1 c1] := (Blk.new_ (by simp)).below hbi (by omega)
                    obtain ⟨A, n, c, zs, h0, h1⟩ := HT2.out.below hbc (Nat.le_refl _)
                    obtain ⟨A', n', c', zs', h0', h1'⟩ := HC2.out.below hbc (Nat.le_refl _)
                    obtain ⟨A'', n'', c'', zs'', h0'', h1''⟩ := HR12.out.below hbc (Nat.le_refl _)
                    rcases (show j = 0 ∨ j = 1 ∨ j = 2 by omega) with rfl | rfl | rfl
                    · exact ⟨A, n, c, zs, by rw [hB.cell, ← h0]; rfl, h1⟩
                    · exact ⟨A', n', c', zs', by rw [hB.cell, ← h0']; rfl, h1'⟩
                    · exact ⟨A'', n'', c'', zs'', by rw [hB.cell, ← h0'']; rfl, h1''⟩
                  have hYB : Blk wr wo.heap.size 29 #[.slice yA yn yc, .int .i64 ysum] := ((Blk.new wo 29 _).alloc _).below hbi (by omega)
                  have y0 := hYB.cell 0
                  have y1 := hYB.cell 1
                  simp at y0 y1
                  have hdj : decide ((j : Int) < 3) = true := by simp; omega
                  have HBI := Lib.hid hbi
                  have HVR := Lib.hid ((HV2.out.below hbc (by omega)).more (show w3.heap.size ≤ wc.heap.size by omega))
                  have HYR := Lib.hid (HY.out.1.below (hbi'.mono (show wc.heap.size ≤ wo.heap.size by omega)) (Nat.le_refl _))
                  have HZR := Lib.hid hz
                  have HS1 := Lib.hid (fun W (hb : Below wr.heap.size wr W) => scheck_any vA yA zA vn vc yn yc zn zc vs ys zs t1 ysum W wc.heap.size (by have := hb.size; omega) (HVR.out.below hb (by omega)) (HYR.out.below hb (by omega)) (HZR.out.1.below hb (by omega)) HVL.out hvc (by unfold maxLen; omega) HY.out.2.1 (by have := HY.out.2.2; unfold maxLen; omega) HZR.out.2.1 HZR.out.2.2)
                  have HS2 := Lib.hid (fun W (hb : Below wr.heap.size wr W) => rcheck_any vA yA zA vn vc yn yc zn zc vs ys zs t1 ysum W wc.heap.size (by have := hb.size; omega) (HVR.out.below hb (by omega)) (HYR.out.below hb (by omega)) (HZR.out.1.below hb (by omega)) HVL.out hvc (by unfold maxLen; omega) HY.out.2.1 (by have := HY.out.2.2; unfold maxLen; omega) HZR.out.2.1 HZR.out.2.2)
                  generalize selCheckV vs t1 ys ysum zs = cv at *
                  have hne : (cv != cv) = false := by simp
                  have hylt : wo.heap.size < wr.heap.size := by omega
                  clear hz hbi hbi' hbc hYB hc0 hc1
                  go_wp2_with fail
                  go_region_held3 (fun w' => w'.cell? ⟨wo.heap.size, 0, none⟩ = some (.slice yA yn yc) ∧ w'.cell? ⟨wo.heap.size, 1, none⟩ = some (.int .i64 ysum)) (first | go_keep | assumption)
                    (first
                    | ((go_at_call 14; refine (HS1.out wr.drew (Below.refl _ _).drew).mono ?_; rintro e w7 ⟨rfl, hb7'⟩; have hb7 : Below wr.heap.size wr w7 := (Below.refl _ _).drew.trans hb7'; have y0' := (hb7.cell (p := ⟨wo.heap.size, 0, none⟩) hylt).trans y0; have y1' := (hb7.cell (p := ⟨wo.heap.size, 1, none⟩) hylt).trans y1; have HB7 := Lib.hid hb7))
                    | ((go_at_call 15; refine (HS2.out w7 HB7.out).mono ?_; rintro e w8 ⟨rfl, hb8⟩; have hb78 := HB7.out.trans (hb8.mono HB7.out.size); have y0'' := (hb78.cell (p := ⟨wo.heap.size, 0, none⟩) hylt).trans y0; have y1'' := (hb78.cell (p := ⟨wo.heap.size, 1, none⟩) hylt).trans y1; have HB8 := Lib.hid hb78)))
                  have HBR := Lib.hid (HBI.out.trans (HB8.out.mono hzi))
                  clear hb7 hb7' hb8 hb78 y0 y1 y0' y1' y0'' y1''
                  go_wp2_with fail
                  go_roundw
                  case rel => exact ⟨j + 1, by omega, by go_num, HBR.out⟩
                  case measure => simp [intOf]; omega
                · go_wp2_with fail
                  go_roundw
                  case rel => exact ⟨k + 1, by omega, by go_num, HBO.out.trans (hbi'.mono (by omega))⟩
                  case measure => simp [intOf]; omega
            · go_wp2
              go_ret
              exact ⟨rfl, HBW.out.trans (((Below.refl _ wc).alloc (Nat.le_refl _) _).trans (hbo.mono (by omega)) |>.mono (by omega))⟩
end Go.Proofs.Ytlajgdeoobmjjaa
