import Derived.Test.YtlajgdeoobmjjaaGreed
import Derived.Test.YtlajgdeoobmjjaaContains
import Derived.Test.YtlajgdeoobmjjaaShelf
import Derived.Sort.OwnSortedInts
namespace Go.Proofs.Ytlajgdeoobmjjaa
open Go.RowKit
set_option linter.unusedVariables false

def lenAt (g : Nat) (w : World) : Nat := match w.cell? ⟨g, 0, none⟩ with | some (.slice _ l _) => l | _ => 0
/-- the selection that is made: its box in block g, its places in a row of its own -/
def BoxSt (g : Nat) (w0 : World) (pl : List Int) (s : Int) (wr : World) : Prop :=
  ∃ sv, Blk wr g 29 #[sv, .int .i64 s] ∧ wr.ownsRow (g + 1) 3 1 sv pl.length (I64 pl) ∧ Below g w0 wr
theorem BoxSt.len {g : Nat} {w0 wr : World} {pl : List Int} {s : Int} (h : BoxSt g w0 pl s wr) : lenAt g wr = pl.length := by
  obtain ⟨sv, h1, h2, _⟩ := h
  obtain ⟨A, c, rfl, _⟩ := slice_of_own h2
  unfold lenAt
  rw [h1.cell 0]
  rfl
theorem BoxSt.drew {g : Nat} {w0 wr : World} {pl : List Int} {s : Int} (h : BoxSt g w0 pl s wr) : BoxSt g w0 pl s wr.drew := by
  obtain ⟨sv, h1, h2, h3⟩ := h
  exact ⟨sv, h1, h2, h3.drew⟩
theorem box_push {w w1 w0 : World} {g : Nat} {pl : List Int} {sum x s' : Int} {sv v : Value} (hB : Blk w g 29 #[sv, .int .i64 sum]) (ho : w.ownsRow (g + 1) 3 1 sv pl.length (I64 pl)) (hb : Below g w0 w)
    (hown : w1.ownsRow (g + 1) 3 1 v (pl.length + 1) (I64 pl ++ [.int .i64 x])) (hg1 : w.grownBy w1 sv.ownBlock) :
    Blk w1 g 29 #[sv, .int .i64 sum] ∧ BoxSt g w0 (pl ++ [x]) s' ((w1.setCell ⟨g, 0, none⟩ v).setCell ⟨g, 1, none⟩ (.int .i64 s')) ∧ Below g w0 (w1.setCell ⟨g, 0, none⟩ v) ∧ Blk (w1.setCell ⟨g, 0, none⟩ v) g 29 #[v, .int .i64 sum] ∧ BoxSt g w0 (pl ++ [x]) sum (w1.setCell ⟨g, 0, none⟩ v) := by
  have hB1 := hB.grown hg1 (own_blk_ne ho hB (by decide)).symm
  have hB2 : Blk (w1.setCell ⟨g, 0, none⟩ v) g 29 #[v, .int .i64 sum] := by simpa using hB1.set_ 0 v
  have hb1 : Below g w0 (w1.setCell ⟨g, 0, none⟩ v) := (hb.grown hg1 (Nat.le_of_lt hB.lt) (fun k hk => by have := (ho.lt k hk).1; omega)).setCell (p := ⟨g, 0, none⟩) (Nat.le_refl _) v
  have h1 := own_setCell_far (i := 0) hown hB1 (by decide) v
  have h2 := own_setCell_far (i := 1) h1 hB2 (by decide) (.int .i64 s')
  exact ⟨hB1, ⟨v, by simpa using hB2.set_ 1 (.int .i64 s'), by simpa using h2, hb1.setCell (p := ⟨g, 1, none⟩) (Nat.le_refl _) _⟩, hb1, hB2, ⟨v, hB2, by simpa using h1, hb1⟩⟩

/-- what Largest gives -/
structure LargR where
  places : List Int
  sum : Int
  err : Int
def sortI (l : List Int) : List Int := l.mergeSort fun x y => decide (x ≤ y)
def largOk (zs : List Int) (t : Int) : LargR := ⟨sortI (greedV zs t zs.length ([], 0)).1, (greedV zs t zs.length ([], 0)).2, 0⟩
def largV (zs : List Int) (t : Int) : LargR :=
  if checkV zs t ≠ 0 then ⟨[], 0, checkV zs t⟩ else if zs.sum < t then ⟨[], 0, 320⟩ else largOk zs t

theorem sort_len (l : List Int) : (sortI l).length = l.length := by simp [sortI]
/-- slices.Sort on a row of one's own -/
theorem sort_own (base : Nat) (v : Value) (l : List Int) (w : World) (h : w.ownsRow base 3 1 v l.length (I64 l)) (h0 : 0 < l.length) (hn : l.length ≤ 1000000) :
    Calls Try.prog 34 #[v] w fun e w' => e = .returned (.tuple #[]) ∧ w'.ownsRow base 3 1 v l.length (I64 (sortI l)) ∧ w.grownBy w' v.ownBlock := by
  rcases h.2 with ⟨_, h1⟩ | ⟨g, cap, cur, rfl, hb, hh, hnc, hm, hs, ht⟩
  · omega
  · have hlt : g < w.heap.size := (Array.getElem?_eq_some_iff.1 hh).1
    rw [Nat.mul_one] at ht
    refine (Try.slices_Sort_int g 0 cap l w (holds_of_blockI hh ht) hlt (by omega)).mono ?_
    rintro e w' ⟨rfl, n, os, rfl⟩
    exact ⟨rfl, ownsRow_sortedI (ss := l) (ts := sortI l) (sort_len l) hb hh hnc hm hs, grownBy_sortedI _⟩

def LargPost (w : World) (r : LargR) (e : Ending) (w' : World) : Prop :=
  ∃ pv, e = .returned (.tuple #[.agg #[pv, .int .i64 r.sum], .int .i64 r.err]) ∧ w'.ownsRow w.heap.size 3 1 pv r.places.length (I64 r.places) ∧ Below w.heap.size w w'

theorem greed_more {zs : List Int} {t : Int} {pl : List Int} {s : Int} {m : Nat} (hs : s < t) (hm : 0 < m) : greedV zs t m (pl, s) = greedV zs t (m - 1) (pl ++ [pickP zs pl], s + zs.getD (pickP zs pl).toNat 0) := by
  obtain ⟨k, rfl⟩ : ∃ k, m = k + 1 := ⟨m - 1, by omega⟩
  rw [greedV, if_pos hs]; rfl
theorem greed_done {zs : List Int} {t : Int} {st : List Int × Int} {m : Nat} (hs : ¬ st.2 < t) : greedV zs t m st = st := by
  cases m with
  | zero => rfl
  | succ m => rw [greedV, if_neg hs]

set_option maxHeartbeats 2000000 in
theorem largest_loop (A : Option Addr) (n c : Nat) (zs : List Int) (t : Int) (w : World) (hr : Rd w w.heap.size A (I64 zs)) (hl : zs.length = n) (hm : n ≤ maxLen) (hchk : checkV zs t = 0) (hfund : ¬ zs.sum < t) :
    Calls Try.prog 17 #[.slice A n c, .int .i64 t] w (LargPost w (largOk zs t)) := by
  obtain ⟨hv, ht⟩ := (checkV_ok zs t).1 hchk
  have hsum := sum_bd' zs hv
  have hn16 : n ≤ 16 := by rw [← hl]; exact hv.1
  have HRD := Lib.hid hr
  have HCH := Lib.hid (check_any A n c zs t _ w.heap.size (hr.alloc (Nat.le_refl _) (.cells #[.slice none 0 0, .int .i64 0] 29)) hl hm)
  rw [hchk] at HCH
  have HT := Lib.hid (total_any A n c zs _ w.heap.size (hr.alloc (Nat.le_refl _) (.cells #[.slice none 0 0, .int .i64 0] 29)) hl hv)
  have HV := Lib.hid hv
  have HL := Lib.hid hl
  unfold Good at ht
  clear hchk hr hl hv
  go_enter Try.func17, Try.ntmps17
  go_wp2_with fail
  refine HCH.out.mono ?_
  rintro e w1 ⟨rfl, rfl⟩
  go_wp2_with fail
  refine HT.out.mono ?_
  rintro e w1 ⟨rfl, rfl⟩
  have HF0 := Lib.hid hfund
  generalize hsm : zs.sum = sm at *
  have HSM := Lib.hid hsm; clear hsm
  have hdf : decide (sm < t) = false := by simpa using hfund
  go_wp2_with fail
  obtain ⟨w0, hw0⟩ : ∃ w0, w0 = w.alloc (.cells #[.slice none 0 0, .int .i64 0] 29) := ⟨_, rfl⟩
  have hz0 : w.heap.size + 1 = w0.heap.size := by rw [hw0]; simp
  have HR0 := Lib.hid (show Rd w0 w.heap.size A (I64 zs) by rw [hw0]; exact HRD.out.alloc (Nat.le_refl _) _)
  have HBL0 := Lib.hid (show Below w.heap.size w w0 by rw [hw0]; exact (Below.refl _ _).alloc (Nat.le_refl _) _)
  have HRS := Lib.hid (show Blk w0 w.heap.size 29 #[.slice none 0 0, .int .i64 0] by rw [hw0]; exact Blk.new _ _ _)
  rw [← hw0]
  rw [hz0]
  clear hw0
  have HZ0 := Lib.hid hz0
  have hz0' : w.heap.size < w0.heap.size := by omega
  clear hz0
  go_loopw [8, 9, 10, 29] (fun _ _ _ _ wr => ∃ pl s, Hid (GSt zs t pl s) ∧ Hid (greedV zs t (n - pl.length) (pl, s) = greedV zs t n ([], 0)) ∧ 0 ≤ s ∧ s ≤ 33600000000000000 ∧ Hid (BoxSt w0.heap.size w0 pl s wr)) (fun _ _ _ _ wr => n - lenAt w0.heap.size wr)
  case atStart => exact ⟨[], 0, gst_init zs t, rfl, by omega, by omega, ⟨.slice none 0 0, Blk.new _ _ _, World.ownsRow_nil _ _ _ _, (Below.refl _ _).alloc (Nat.le_refl _) _⟩⟩
  case round =>
    obtain ⟨pl, s, HG, HGE, hs0, hs1, HBX⟩ := hrel
    have HLN := Lib.hid HBX.out.len
    obtain ⟨sv, hB, ho, hbl⟩ := HBX.out
    obtain ⟨sA, sc, rfl, hsc⟩ := slice_of_own ho
    have HB := Lib.hid hB
    have HO := Lib.hid ho
    have HBL := Lib.hid hbl
    have s0 := hB.cell 0
    have s1 := hB.cell 1
    have f0 := hB.frozen 0
    simp at s0 s1
    have hgs := hB.lt
    have HRR := Lib.hid (HR0.out.below hbl (by omega))
    have hpl := gst_len HG.out
    rw [HL.out] at hpl
    clear hB ho hbl
    by_cases hst : s < t
    · have hdst : decide (s < t) = true := by simpa using hst
      have hss : s < zs.sum := by rw [HSM.out]; omega
      obtain ⟨hg0, hg1, hg2⟩ := gst_pick HG.out hss
      have HGS := Lib.hid (gst_step HG.out hss)
      have hplt := gst_len_lt HG.out hss
      rw [HL.out] at hplt hg1
      have HGM := Lib.hid (greed_more (zs := zs) (t := t) (pl := pl) (m := n - pl.length) hst (by omega))
      clear hss
      have HPP := Lib.hid (show pickP zs pl = pickV zs (fun j => pl.contains (j : Int)) n by rw [← HL.out]; rfl)
      go_wp2_with fail
      go_loop [8, 9, 10, 29] (fun g _ _ i => ∃ k : Nat, k ≤ n ∧ i = .int .i64 k ∧ g = .int .i64 (pickV zs (fun j => pl.contains (j : Int)) k)) (fun _ _ _ i => n - (intOf i).toNat)
      case atStart => exact ⟨0, Nat.zero_le _, rfl, rfl⟩
      case round =>
        obtain ⟨k, hk, rfl, rfl⟩ := hrel
        obtain ⟨q1, q2, q3⟩ := pickV_lt zs (fun j => pl.contains (j : Int)) k
        by_cases hlt : k < n
        · have hkl : k < zs.length := by rw [HL.out]; exact hlt
          obtain ⟨ad, hA, hadb, hcell⟩ := HRR.out.at_ (get_i64 hkl)
          have HC := Lib.hid (contains_any sA pl.length sc pl (k : Int) wr wr.heap.size (Rd.of_own HO.out) rfl (by omega))
          have HPK := Lib.hid (show pickV zs (fun j => pl.contains (j : Int)) (k + 1) = if pl.contains (k : Int) = false ∧ (pickV zs (fun j => pl.contains (j : Int)) k < 0 ∨ zs.getD (pickV zs (fun j => pl.contains (j : Int)) k).toNat 0 < zs.getD k 0) then (k : Int) else pickV zs (fun j => pl.contains (j : Int)) k from rfl)
          have HZK := Lib.hid (show zs.getD k 0 = zs[k] by simp [List.getD, hkl])
          rw [HZK.out] at HPK
          have HCG := Lib.hid (fun (hp : 0 ≤ pickV zs (fun j => pl.contains (j : Int)) k) => show ∃ gz, zs.getD (pickV zs (fun j => pl.contains (j : Int)) k).toNat 0 = gz ∧ wr.cell? (ad.add (pickV zs (fun j => pl.contains (j : Int)) k).toNat) = some (.int .i64 gz) by
            have hl2 : (pickV zs (fun j => pl.contains (j : Int)) k).toNat < zs.length := by omega
            obtain ⟨ad', hA', _, hc'⟩ := HRR.out.at_ (get_i64 hl2)
            rw [hA] at hA'
            injection hA' with hA'
            subst hA'
            exact ⟨_, by simp only [List.getD, List.getElem?_eq_getElem hl2, Option.getD_some], hc'⟩)
          subst hA
          generalize zs[k] = z at *
          generalize pickV zs (fun j => pl.contains (j : Int)) k = pk at *
          cases hcc : pl.contains (k : Int) with
          | true =>
            rw [hcc] at HC
            have HE := Lib.hid (HPK.out.trans (if_neg (by rw [hcc]; simp)))
            clear hcc
            go_wp2_with fail
            refine HC.out.mono ?_
            rintro e w2 ⟨rfl, rfl⟩
            go_wp2_with fail
            go_round
            case rel => exact ⟨k + 1, by omega, by go_num, by rw [HE.out]⟩
            case measure => simp [intOf]; omega
          | false =>
            rw [hcc] at HC
            by_cases hp : pk < 0
            · have HE := Lib.hid (HPK.out.trans (if_pos ⟨hcc, .inl hp⟩))
              clear hcc
              go_wp2_with fail
              refine HC.out.mono ?_
              rintro e w2 ⟨rfl, rfl⟩
              go_wp2_with fail
              go_round
              case rel => exact ⟨k + 1, by omega, by go_num, by rw [HE.out]⟩
              case measure => simp [intOf]; omega
            · obtain ⟨gz, e1, hcg⟩ := HCG.out (by omega)
              rw [e1] at HPK
              obtain ⟨pk, rfl⟩ := Int.eq_ofNat_of_zero_le (show 0 ≤ pk by omega)
              simp only [Int.toNat_natCast] at hcg
              have hpkn : pk < n := by omega
              clear e1 q3
              by_cases hgz : gz < z
              · have HE := Lib.hid (HPK.out.trans (if_pos ⟨hcc, .inr hgz⟩))
                clear hcc
                go_wp2_with fail
                refine HC.out.mono ?_
                rintro e w2 ⟨rfl, rfl⟩
                go_wp2_with fail
                go_round
                case rel => exact ⟨k + 1, by omega, by go_num, by rw [HE.out]⟩
                case measure => simp [intOf]; omega
              · have HE := Lib.hid (HPK.out.trans (if_neg (fun h => by rcases h.2 with h | h; exact hp h; exact hgz h)))
                clear hcc
                go_wp2_with fail
                refine HC.out.mono ?_
                rintro e w2 ⟨rfl, rfl⟩
                go_wp2_with fail
                go_round
                case rel => exact ⟨k + 1, by omega, by go_num, by rw [HE.out]⟩
                case measure => simp [intOf]; omega
        · have ek : k = n := by omega
          subst ek
          have hpk := HPP.out
          rw [← hpk]
          have hgl : (pickP zs pl).toNat < zs.length := by rw [HL.out]; omega
          obtain ⟨ad, hA, hadb, hcell⟩ := HRR.out.at_ (get_i64 hgl)
          have HZ := Lib.hid (show zs.getD (pickP zs pl).toNat 0 = zs[(pickP zs pl).toNat] by simp only [List.getD, List.getElem?_eq_getElem hgl, Option.getD_some])
          have hgood := HV.out.2 _ (List.getElem_mem hgl)
          rw [HZ.out] at HGS HGM
          unfold Good at hgood
          generalize zs[(pickP zs pl).toNat] = z at *
          generalize pickP zs pl = pp at *
          obtain ⟨pp, rfl⟩ := Int.eq_ofNat_of_zero_le hg0
          simp only [Int.toNat_natCast] at hcell hgl
          subst hA
          clear hpk q1 q2 q3
          have hsnd : s + z ≤ 33600000000000000 := by omega
          go_wp2_with (at_builtin; refine wpList_push _ _ rfl (.tmp 54) (.tmp 56) 22 rfl el22 (w0.heap.size + 1) (.slice sA pl.length sc) pl.length _ rfl HO.out rfl rfl (one_int _ _) (by omega) (by omega) ?_; intro v4 w4 hown4 hg4 hat4; have HF4 := Lib.hid (fun s' => box_push (s' := s') HB.out HO.out HBL.out hown4 hg4); have hB4 := (HF4.out 0).1; have t0 := hB4.cell 0; have t1' := hB4.cell 1; have u0 := hB4.frozen 0; have u1 := hB4.frozen 1; simp at t0 t1'; obtain ⟨nA, nc, rfl, hnc⟩ := slice_of_own hown4; have t2 := ((HF4.out 0).2.2.1.cell (p := ad.add pp) (by rw [block_of_add]; omega)).trans ((HBL.out.cell (p := ad.add pp) (by rw [block_of_add]; omega)).symm.trans hcell); have t3 := (HF4.out 0).2.2.2.1.cell 1; have t4 := (HF4.out 0).2.2.2.1.frozen 1; simp at t3; clear hown4 hg4 hat4 hB4)
          have qw : IntKind.i64.wrap (s + z) = s + z := IntWalk.i64_in _ (by omega)
          go_region
          clear qw
          have HNB := Lib.hid (HF4.out (s + z)).2.1.drew
          have HNL := Lib.hid HNB.out.len
          have HGN := Lib.hid (HGM.out.symm.trans HGE.out)
          go_wp2_with fail
          go_roundw
          case rel => exact ⟨pl ++ [(pp : Int)], s + z, HGS.out, by rw [List.length_append, List.length_singleton, ← Nat.sub_sub]; exact HGN.out, by omega, hsnd, HNB.out⟩
          case measure => rw [HNL.out, HLN.out]; simp; omega
    · have hdst : decide (s < t) = false := by simpa using hst
      have hpl0 : 0 < pl.length := by
        rcases Nat.eq_zero_or_pos pl.length with h0 | h0
        · have h1 := List.eq_nil_of_length_eq_zero h0
          have h2 := HG.out.sum
          have h3 := (gst_init zs t).sum
          rw [h1] at h2
          omega
        · exact h0
      have HFIN := Lib.hid (show largOk zs t = ⟨sortI pl, s, 0⟩ by
        have h1 := HGE.out
        rw [greed_done hst] at h1
        unfold largOk
        rw [HL.out, ← h1])
      have HSO := Lib.hid (sort_own (w0.heap.size + 1) _ pl wr HO.out hpl0 (by omega))
      go_wp2_with fail
      refine HSO.out.mono ?_
      rintro e w3 ⟨rfl, hown3, hg3⟩
      have hB3 := HB.out.grown hg3 (own_blk_ne HO.out HB.out (by decide)).symm
      have hbl3 : Below w0.heap.size w0 w3 := HBL.out.grown hg3 (by omega) (fun k hk => by have := (HO.out.lt k hk).1; omega)
      have hR3 := HRS.out.below hbl3 hz0'
      have HBW := Lib.hid (HBL0.out.trans (hbl3.mono (by omega)))
      have HR3 := Lib.hid hR3
      have HO3 := Lib.hid hown3
      have b0 := hB3.cell 0
      have b1 := hB3.cell 1
      have r0 := hR3.cell 0
      have r1 := hR3.cell 1
      have k0 := hR3.frozen 0
      have k1 := hR3.frozen 1
      simp at b0 b1 r0 r1
      clear hown3 hg3 hB3 hbl3 hR3 s0 s1 f0
      go_wp2
      rw [HFIN.out]
      have hQ : Blk ((w3.setCell ⟨w.heap.size, 0, none⟩ (.slice sA pl.length sc)).setCell ⟨w.heap.size, 1, none⟩ (.int .i64 s)) w.heap.size 29 #[.slice sA pl.length sc, .int .i64 s] := by simpa using (HR3.out.set_ 0 (.slice sA pl.length sc)).set_ 1 (.int .i64 s)
      have q0 := hQ.cell 0
      have q1 := hQ.cell 1
      simp at q0 q1
      refine bodyPost_ret (v := .tuple #[.agg #[.slice sA pl.length sc, .int .i64 s], .int .i64 0]) (by simp [results, Try.results17, go_sem, q0, q1]) rfl ?_
      refine ⟨_, rfl, ?_, (HBW.out.setCell (p := ⟨w.heap.size, 0, none⟩) (Nat.le_refl _) _).setCell (p := ⟨w.heap.size, 1, none⟩) (Nat.le_refl _) _⟩
      have h1 := own_setCell_far (i := 1) (own_setCell_far (i := 0) HO3.out HR3.out (by decide) (.slice sA pl.length sc)) (HR3.out.set_ 0 _) (by decide) (.int .i64 s)
      show World.ownsRow _ _ _ _ _ (sortI pl).length (I64 (sortI pl))
      rw [sort_len]
      exact own_more h1 (by omega)

set_option maxHeartbeats 2000000 in
theorem largest_any (A : Option Addr) (n c : Nat) (zs : List Int) (t : Int) (w : World) (hr : Rd w w.heap.size A (I64 zs)) (hl : zs.length = n) (hm : n ≤ maxLen) :
    Calls Try.prog 17 #[.slice A n c, .int .i64 t] w (LargPost w (largV zs t)) := by
  by_cases hchk : checkV zs t = 0
  · by_cases hfund : zs.sum < t
    · have HE := Lib.hid (show largV zs t = ⟨[], 0, 320⟩ by simp [largV, hchk, hfund])
      obtain ⟨hv, ht⟩ := (checkV_ok zs t).1 hchk
      have HCH := Lib.hid (check_any A n c zs t _ w.heap.size (hr.alloc (Nat.le_refl _) (.cells #[.slice none 0 0, .int .i64 0] 29)) hl hm)
      rw [hchk] at HCH
      have HT := Lib.hid (total_any A n c zs _ w.heap.size (hr.alloc (Nat.le_refl _) (.cells #[.slice none 0 0, .int .i64 0] 29)) hl hv)
      clear hchk hr hl hv ht
      go_enter Try.func17, Try.ntmps17
      go_wp2_with fail
      refine HCH.out.mono ?_
      rintro e w1 ⟨rfl, rfl⟩
      go_wp2_with fail
      refine HT.out.mono ?_
      rintro e w1 ⟨rfl, rfl⟩
      go_wp2
      rw [HE.out]
      refine bodyPost_ret (v := .tuple #[.agg #[.slice none 0 0, .int .i64 0], .int .i64 320]) (by simp [results, Try.results17, go_sem]) rfl ?_
      exact ⟨_, rfl, World.ownsRow_nil _ _ _ _, (Below.refl _ _).alloc (Nat.le_refl _) _⟩
    · rw [show largV zs t = largOk zs t by simp [largV, hchk, hfund]]
      exact largest_loop A n c zs t w hr hl hm hchk hfund
  · have HE := Lib.hid (show largV zs t = ⟨[], 0, checkV zs t⟩ by simp [largV, hchk])
    have HCH := Lib.hid (check_any A n c zs t _ w.heap.size (hr.alloc (Nat.le_refl _) (.cells #[.slice none 0 0, .int .i64 0] 29)) hl hm)
    generalize checkV zs t = x at *
    have hd : (x != 0) = true := by simp [bne_iff_ne, hchk]
    clear hchk hr hl
    go_enter Try.func17, Try.ntmps17
    go_wp2_with fail
    refine HCH.out.mono ?_
    rintro e w1 ⟨rfl, rfl⟩
    go_wp2
    rw [HE.out]
    refine bodyPost_ret (v := .tuple #[.agg #[.slice none 0 0, .int .i64 0], .int .i64 x]) (by simp [results, Try.results17, go_sem]) rfl ?_
    exact ⟨_, rfl, World.ownsRow_nil _ _ _ _, (Below.refl _ _).alloc (Nat.le_refl _) _⟩
end Go.Proofs.Ytlajgdeoobmjjaa
