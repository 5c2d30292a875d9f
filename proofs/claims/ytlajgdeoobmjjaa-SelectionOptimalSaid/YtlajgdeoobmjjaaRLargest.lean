import Derived.Test.YtlajgdeoobmjjaaLargest
import Derived.Laws.MakeOwn
namespace Go.Proofs.Ytlajgdeoobmjjaa
open Go.RowKit
set_option linter.unusedVariables false

/-- make([]T, n): the run, at every world -/
theorem run_mk {P : Program} {t e : TypeId} {z : Value} {size bytes : Nat} (E : Elem P t e z size bytes) (n : Nat) (hn : n ≤ 1000000) (w : World) :
    (Instr.makeSlice t (.int .i64 (n : Int)) (.int .i64 (n : Int))).run P w = .ok (.slice (some ⟨w.heap.size, 0, none⟩) n n) (w.alloc (.cells (madeCells z.cells (n * size)) e)) := by
  obtain ⟨ht, ⟨i, hi, hz, hs, hb⟩, hzs, hsz, hby⟩ := E
  have hbb : i.bytes * n ≤ 281474976710656 := by rw [hb]; exact Nat.le_trans (Nat.mul_le_mul hby hn) (by omega)
  have hr := run_make (P := P) w t e i z ht hi hz .i64 .i64 n n (by omega) (by omega) (by
    have h : ((i.bytes * n : Nat) : Int) ≤ 281474976710656 := by omega
    rwa [Int.natCast_mul] at h) (by omega)
  simp only [Int.toNat_natCast] at hr
  rw [hr, hs]

theorem el67 : Elem Try.prog 67 4 (.bool false) 1 1 := Elem.mk' Try.underlying67 (by kernel_rfl) rfl (by decide) (by decide)

/-- the row of flags -/
def tkArr (pl : List Int) (n : Nat) : Array Value := ((List.range n).map (fun (j : Nat) => Value.bool (pl.contains (j : Int)))).toArray
theorem tk_made (n : Nat) : madeCells (Value.bool false).cells (n * 1) = tkArr [] n := by
  apply Array.ext_getElem?
  intro j
  by_cases h : j < n
  · simp [madeCells, tkArr, Value.cells, h, Nat.mod_one]
  · simp [madeCells, tkArr, Value.cells, h]
theorem tk_get (pl : List Int) {n j : Nat} (h : j < n) : (tkArr pl n)[j]? = some (.bool (pl.contains (j : Int))) := by
  simp [tkArr, h]
theorem tk_set (pl : List Int) (n g : Nat) (h : g < n) : (tkArr pl n).setIfInBounds g (.bool true) = tkArr (pl ++ [(g : Int)]) n := by
  apply Array.ext_getElem?
  intro j
  rw [Array.getElem?_setIfInBounds]
  by_cases hj : g = j
  · subst hj
    simp [tkArr, h]
  · rw [if_neg hj]
    by_cases hjn : j < n
    · rw [tk_get pl hjn, tk_get _ hjn]
      have : (j : Int) ≠ (g : Int) := by omega
      simp [this]
    · simp [tkArr, hjn]

def takenL (pl : List Int) (n : Nat) : List Int := ((List.range n).filter (fun (j : Nat) => pl.contains (j : Int))).map (fun (j : Nat) => (j : Int))
theorem takenL_succ (pl : List Int) (n : Nat) : takenL pl (n + 1) = takenL pl n ++ (if pl.contains (n : Int) then [(n : Int)] else []) := by
  unfold takenL
  rw [List.range_succ, List.filter_append, List.map_append]
  congr 1
  by_cases h : pl.contains (n : Int)
  · simp only [h, if_true]; rw [List.filter_cons_of_pos (by simpa using h)]; rfl
  · simp only [h]; rw [List.filter_cons_of_neg (by simpa using h)]; rfl
theorem takenL_len (pl : List Int) (n : Nat) : (takenL pl n).length ≤ n := by
  unfold takenL
  rw [List.length_map]
  exact Nat.le_trans (List.length_filter_le _ _) (by simp)

def rlargOk (zs : List Int) (t : Int) : LargR := ⟨takenL (greedV zs t zs.length ([], 0)).1 zs.length, (greedV zs t zs.length ([], 0)).2, 0⟩
def rlargV (zs : List Int) (t : Int) : LargR :=
  if checkV zs t ≠ 0 then ⟨[], 0, checkV zs t⟩ else if zs.sum < t then ⟨[], 0, 320⟩ else rlargOk zs t

set_option maxHeartbeats 2000000 in
theorem rlargest_loop (A : Option Addr) (n c : Nat) (zs : List Int) (t : Int) (w : World) (hr : Rd w w.heap.size A (I64 zs)) (hl : zs.length = n) (hm : n ≤ maxLen) (hchk : checkV zs t = 0) (hfund : ¬ zs.sum < t) :
    Calls Try.prog 18 #[.slice A n c, .int .i64 t] w (LargPost w (rlargOk zs t)) := by
  obtain ⟨hv, ht⟩ := (checkV_ok zs t).1 hchk
  have hsum := sum_bd' zs hv
  have hn16 : n ≤ 16 := by rw [← hl]; exact hv.1
  have HRD := Lib.hid hr
  have HCH := Lib.hid (proper_any A n c zs t _ w.heap.size (hr.alloc (Nat.le_refl _) (.cells #[.slice none 0 0, .int .i64 0] 29)) hl hm)
  rw [hchk] at HCH
  have HT := Lib.hid (sum_any A n c zs _ w.heap.size (hr.alloc (Nat.le_refl _) (.cells #[.slice none 0 0, .int .i64 0] 29)) hl hv)
  have HV := Lib.hid hv
  have HL := Lib.hid hl
  unfold Good at ht
  have hmk := run_mk el67 n (by omega)
  rw [tk_made] at hmk
  clear hchk hr hl hv
  go_enter Try.func18, Try.ntmps18
  go_wp2_with fail
  refine HCH.out.mono ?_
  rintro e w1 ⟨rfl, rfl⟩
  go_wp2_with fail
  refine HT.out.mono ?_
  rintro e w1 ⟨rfl, rfl⟩
  generalize hsm : zs.sum = sm at *
  have HSM := Lib.hid hsm; clear hsm
  have hdf : decide (sm < t) = false := by simpa using hfund
  obtain ⟨w0, hw0⟩ : ∃ w0, w0 = w.alloc (.cells #[.slice none 0 0, .int .i64 0] 29) := ⟨_, rfl⟩
  have hz0 : w.heap.size + 1 = w0.heap.size := by rw [hw0]; simp
  have HR0 := Lib.hid (show Rd w0 w.heap.size A (I64 zs) by rw [hw0]; exact HRD.out.alloc (Nat.le_refl _) _)
  have HBL0 := Lib.hid (show Below w.heap.size w w0 by rw [hw0]; exact (Below.refl _ _).alloc (Nat.le_refl _) _)
  have HRS := Lib.hid (show Blk w0 w.heap.size 29 #[.slice none 0 0, .int .i64 0] by rw [hw0]; exact Blk.new _ _ _)
  rw [← hw0]
  clear hw0
  have HZ0 := Lib.hid hz0
  have hz0' : w.heap.size < w0.heap.size := by omega
  clear hz0
  go_wp2_with fail
  clear hmk
  go_loopw [8, 9, 10] (fun a _ _ wr => ∃ pl s, a = .int .i64 s ∧ Hid (GSt zs t pl s) ∧ Hid (greedV zs t (n - pl.length) (pl, s) = greedV zs t n ([], 0)) ∧ 0 ≤ s ∧ s ≤ 33600000000000000 ∧ Hid (Blk wr w0.heap.size 4 (tkArr pl n) ∧ Below w0.heap.size w0 wr)) (fun a _ _ _ => (t - intOf a).toNat)
  case atStart => exact ⟨[], 0, rfl, gst_init zs t, rfl, by omega, by omega, Blk.new _ _ _, (Below.refl _ _).alloc (Nat.le_refl _) _⟩
  case round =>
    obtain ⟨pl, s, rfl, HG, HGE, hs0, hs1, HBX⟩ := hrel
    obtain ⟨hB, hbl⟩ := HBX.out
    have HB := Lib.hid hB
    have HBL := Lib.hid hbl
    have hgs := hB.lt
    have HRR := Lib.hid (HR0.out.below hbl (by omega))
    have hpl := gst_len HG.out
    rw [HL.out] at hpl
    clear hB hbl
    obtain ⟨wo, rfl⟩ : ∃ wo : World, wo = wr := ⟨_, rfl⟩
    by_cases hst : s < t
    · have hdst : decide (s < t) = true := by simpa using hst
      have hss : s < zs.sum := by rw [HSM.out]; omega
      obtain ⟨hg0, hg1, hg2⟩ := gst_pick HG.out hss
      have HGS := Lib.hid (gst_step HG.out hss)
      have hplt := gst_len_lt HG.out hss
      rw [HL.out] at hplt hg1
      have HGM := Lib.hid (greed_more (zs := zs) (t := t) (pl := pl) (m := n - pl.length) hst (by omega))
      clear hss
      have HPP := Lib.hid (show pickP zs pl = pickV zs (fun j => pl.contains (j : Int)) n by rw [← HL.out]; rfl)
      go_wp2_with fail
      go_loopw [9, 10] (fun g i wr => ∃ k : Nat, k ≤ n ∧ i = .int .i64 k ∧ g = .int .i64 (pickV zs (fun j => pl.contains (j : Int)) k) ∧ ∃ d, wr = wo.drewN d) (fun _ i _ => n - (intOf i).toNat)
      case atStart => exact ⟨0, Nat.zero_le _, rfl, rfl, 0, rfl⟩
      case round =>
        obtain ⟨k, hk, rfl, rfl, d, rfl⟩ := hrel
        obtain ⟨q1, q2, q3⟩ := pickV_lt zs (fun j => pl.contains (j : Int)) k
        by_cases hlt : k < n
        · have hkl : k < zs.length := by rw [HL.out]; exact hlt
          obtain ⟨ad, hA, hadb, hcell⟩ := HRR.out.at_ (get_i64 hkl)
          have hcf : wo.cell? ⟨w0.heap.size, k, none⟩ = some (.bool (pl.contains (k : Int))) := by rw [HB.out.cell k, tk_get pl hlt]
          have HPK := Lib.hid (show pickV zs (fun j => pl.contains (j : Int)) (k + 1) = if pl.contains (k : Int) = false ∧ (pickV zs (fun j => pl.contains (j : Int)) k < 0 ∨ zs.getD (pickV zs (fun j => pl.contains (j : Int)) k).toNat 0 < zs.getD k 0) then (k : Int) else pickV zs (fun j => pl.contains (j : Int)) k from rfl)
          have HZK := Lib.hid (show zs.getD k 0 = zs[k] by simp [List.getD, hkl])
          rw [HZK.out] at HPK
          have HCG := Lib.hid (fun (hp : 0 ≤ pickV zs (fun j => pl.contains (j : Int)) k) => show ∃ gz, zs.getD (pickV zs (fun j => pl.contains (j : Int)) k).toNat 0 = gz ∧ wo.cell? (ad.add (pickV zs (fun j => pl.contains (j : Int)) k).toNat) = some (.int .i64 gz) by
            have hl2 : (pickV zs (fun j => pl.contains (j : Int)) k).toNat < zs.length := by omega
            obtain ⟨ad', hA', _, hc'⟩ := HRR.out.at_ (get_i64 hl2)
            rw [hA] at hA'
            injection hA' with hA'
            subst hA'
            exact ⟨_, by simp only [List.getD, List.getElem?_eq_getElem hl2, Option.getD_some], hc'⟩)
          subst hA
          generalize zs[k] = z at *
          generalize pickV zs (fun j => pl.contains (j : Int)) k = pk at *
          cases hcc : pl.contains (k : Int) with
          | true =>
            rw [hcc] at hcf
            have HE := Lib.hid (HPK.out.trans (if_neg (by rw [hcc]; simp)))
            clear hcc
            go_wp2_with fail
            go_quiet (fail)
            go_wp2_with fail
            go_roundw
            case rel => exact ⟨k + 1, by omega, by go_num, by rw [HE.out], _, rfl⟩
            case measure => simp [intOf]; omega
          | false =>
            rw [hcc] at hcf
            by_cases hp : pk < 0
            · have HE := Lib.hid (HPK.out.trans (if_pos ⟨hcc, .inl hp⟩))
              have hdp : decide (pk < 0) = true := by simpa using hp
              clear hcc
              go_wp2_with fail
              go_quiet (fail)
              go_wp2_with fail
              go_roundw
              case rel => exact ⟨k + 1, by omega, by go_num, by rw [HE.out], _, rfl⟩
              case measure => simp [intOf]; omega
            · obtain ⟨gz, e1, hcg⟩ := HCG.out (by omega)
              rw [e1] at HPK
              obtain ⟨pk, rfl⟩ := Int.eq_ofNat_of_zero_le (show 0 ≤ pk by omega)
              simp only [Int.toNat_natCast] at hcg
              have hpkn : pk < n := by omega
              have hdp : decide ((pk : Int) < 0) = false := by simp
              clear e1 q3
              by_cases hgz : gz < z
              · have HE := Lib.hid (HPK.out.trans (if_pos ⟨hcc, .inr hgz⟩))
                have hdg : decide (gz < z) = true := by simpa using hgz
                clear hcc
                go_wp2_with fail
                go_quiet (fail)
                go_wp2_with fail
                go_roundw
                case rel => exact ⟨k + 1, by omega, by go_num, by rw [HE.out], _, rfl⟩
                case measure => simp [intOf]; omega
              · have HE := Lib.hid (HPK.out.trans (if_neg (fun h => by rcases h.2 with h | h; exact hp h; exact hgz h)))
                have hdg : decide (gz < z) = false := by simpa using hgz
                clear hcc
                go_wp2_with fail
                go_quiet (fail)
                go_wp2_with fail
                go_roundw
                case rel => exact ⟨k + 1, by omega, by go_num, by rw [HE.out], _, rfl⟩
                case measure => simp [intOf]; omega
        · have ek : k = n := by omega
          subst ek
          have hpk := HPP.out
          rw [← hpk]
          have hgl : (pickP zs pl).toNat < zs.length := by rw [HL.out]; omega
          obtain ⟨ad, hA, hadb, hcell⟩ := HRR.out.at_ (get_i64 hgl)
          have HZ := Lib.hid (show zs.getD (pickP zs pl).toNat 0 = zs[(pickP zs pl).toNat] by simp only [List.getD, List.getElem?_eq_getElem hgl, Option.getD_some])
          have hgood := HV.out.2 _ (List.getElem_mem hgl)
          rw [HZ.out] at HGS HGM
          unfold Good at hgood
          generalize zs[(pickP zs pl).toNat] = z at *
          generalize pickP zs pl = pp at *
          obtain ⟨pp, rfl⟩ := Int.eq_ofNat_of_zero_le hg0
          simp only [Int.toNat_natCast] at hcell hgl
          subst hA
          clear hpk q1 q2 q3
          have hppk : pp < k := by omega
          have hcf : wo.cell? ⟨w0.heap.size, pp, none⟩ = some (.bool (pl.contains (pp : Int))) := by rw [HB.out.cell pp, tk_get pl hppk]
          have hff := HB.out.frozen pp
          have hcv : ((wo.drewN d).setCell ⟨w0.heap.size, pp, none⟩ (.bool true)).cell? (ad.add pp) = some (.int .i64 z) := by
            rw [World.cell?_setCell_other _ _ _ _ (by intro e; have := congrArg Addr.block e; rw [block_of_add] at this; simp at this; omega)]
            exact hcell
          have HNB := Lib.hid (show Blk ((wo.drewN d).setCell ⟨w0.heap.size, pp, none⟩ (.bool true)) w0.heap.size 4 (tkArr (pl ++ [(pp : Int)]) k) ∧ Below w0.heap.size w0 ((wo.drewN d).setCell ⟨w0.heap.size, pp, none⟩ (.bool true)) by
            refine ⟨?_, (below_drewN HBL.out d).setCell (p := ⟨w0.heap.size, pp, none⟩) (Nat.le_refl _) _⟩
            rw [← tk_set pl k pp hppk]
            exact (HB.out.drewN d).set_ pp _)
          have HGN := Lib.hid (HGM.out.symm.trans HGE.out)
          generalize pl.contains (pp : Int) = old at *
          go_wp2_with fail
          go_roundw
          case rel => exact ⟨pl ++ [(pp : Int)], s + z, rfl, HGS.out, by rw [List.length_append, List.length_singleton, ← Nat.sub_sub]; exact HGN.out, by omega, by omega, HNB.out⟩
          case measure => simp [intOf]; omega
    · have hdst : decide (s < t) = false := by simpa using hst
      have HFIN := Lib.hid (show rlargOk zs t = ⟨takenL pl n, s, 0⟩ by
        have h1 := HGE.out
        rw [greed_done hst] at h1
        unfold rlargOk
        rw [HL.out, ← h1])
      go_wp2_with fail
      go_loopw [12] (fun i wr => ∃ k : Nat, k ≤ n ∧ i = .int .i64 k ∧ Hid (BoxSt wo.heap.size wo (takenL pl k) s wr)) (fun i _ => n - (intOf i).toNat)
      case atStart => exact ⟨0, Nat.zero_le _, rfl, ⟨.slice none 0 0, Blk.new _ _ _, World.ownsRow_nil _ _ _ _, (Below.refl _ _).alloc (Nat.le_refl _) _⟩⟩
      case round =>
        obtain ⟨k, hk, rfl, HBO⟩ := hrel
        obtain ⟨sv, hB2, ho, hbl2⟩ := HBO.out
        obtain ⟨sA, sc, rfl, hsc⟩ := slice_of_own ho
        have s0 := hB2.cell 0
        have f0 := hB2.frozen 0
        have s1 := hB2.cell 1
        simp at s0 s1
        have HB2 := Lib.hid hB2
        have HO := Lib.hid ho
        have HBL2 := Lib.hid hbl2
        have hgs2 := hB2.lt
        have hlen := takenL_len pl k
        by_cases hlt : k < n
        · have hcf : wr.cell? ⟨w0.heap.size, k, none⟩ = some (.bool (pl.contains (k : Int))) := by
            rw [(HB.out.below hbl2 hgs).cell k, tk_get pl hlt]
          have HS := Lib.hid (takenL_succ pl k)
          clear hB2 ho hbl2
          cases hcc : pl.contains (k : Int) with
          | true =>
            rw [hcc] at hcf HS
            clear hcc
            have HS2 := Lib.hid (show takenL pl (k + 1) = takenL pl k ++ [(k : Int)] from HS.out)
            clear HS
            generalize takenL pl k = tl at *
            go_wp2_with (at_builtin; refine wpList_push _ _ rfl (.tmp 80) (.tmp 82) 22 rfl el22 (wo.heap.size + 1) (.slice sA tl.length sc) tl.length _ rfl HO.out rfl rfl (one_int _ _) (by omega) (by omega) ?_; intro v4 w4 hown4 hg4 hat4; have HF4 := Lib.hid (box_push (s' := 0) HB2.out HO.out HBL2.out hown4 hg4); have hB4 := HF4.out.1; have t0 := hB4.cell 0; have u0 := hB4.frozen 0; simp at t0; obtain ⟨nA, nc, rfl, hnc⟩ := slice_of_own hown4; clear hown4 hg4 hat4 hB4)
            go_roundw
            case rel => exact ⟨k + 1, by omega, by go_num, by rw [HS2.out]; exact HF4.out.2.2.2.2⟩
            case measure => simp [intOf]; omega
          | false =>
            rw [hcc] at hcf HS
            clear hcc
            have HS2 := Lib.hid (show takenL pl (k + 1) = takenL pl k by rw [HS.out]; simp)
            clear HS
            go_wp2_with fail
            go_roundw
            case rel => exact ⟨k + 1, by omega, by go_num, by rw [HS2.out]; exact HBO.out⟩
            case measure => simp [intOf]; omega
        · have ek : k = n := by omega
          subst ek
          have hR3 := (HRS.out.below HBL.out hz0').below hbl2 (by omega)
          have HR3 := Lib.hid hR3
          have HBW := Lib.hid (HBL0.out.trans ((HBL.out.mono (show w.heap.size ≤ w0.heap.size by omega)).trans (hbl2.mono (by omega))))
          have r0 := hR3.cell 0
          have r1 := hR3.cell 1
          have k0 := hR3.frozen 0
          have k1 := hR3.frozen 1
          simp at r0 r1
          clear hB2 ho hbl2 hR3
          generalize takenL pl k = tl at *
          go_wp2
          rw [HFIN.out]
          have hQ : Blk ((wr.setCell ⟨w.heap.size, 0, none⟩ (.slice sA tl.length sc)).setCell ⟨w.heap.size, 1, none⟩ (.int .i64 s)) w.heap.size 29 #[.slice sA tl.length sc, .int .i64 s] := by simpa using (HR3.out.set_ 0 (.slice sA tl.length sc)).set_ 1 (.int .i64 s)
          have q0 := hQ.cell 0
          have q1 := hQ.cell 1
          simp at q0 q1
          refine bodyPost_ret (v := .tuple #[.agg #[.slice sA tl.length sc, .int .i64 s], .int .i64 0]) (by simp [results, Try.results18, go_sem, q0, q1]) rfl ?_
          refine ⟨_, rfl, ?_, (HBW.out.setCell (p := ⟨w.heap.size, 0, none⟩) (Nat.le_refl _) _).setCell (p := ⟨w.heap.size, 1, none⟩) (Nat.le_refl _) _⟩
          have h1 := own_setCell_far (i := 1) (own_setCell_far (i := 0) HO.out HR3.out (by decide) (.slice sA tl.length sc)) (HR3.out.set_ 0 _) (by decide) (.int .i64 s)
          exact own_more h1 (by omega)
end Go.Proofs.Ytlajgdeoobmjjaa
