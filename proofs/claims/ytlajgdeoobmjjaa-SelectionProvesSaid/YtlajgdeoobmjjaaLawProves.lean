import Derived.Test.YtlajgdeoobmjjaaLeast
import Derived.Deep.RegionLaw
import Derived.Test.YtlajgdeoobmjjaaLawChecks
namespace Go.Proofs.Ytlajgdeoobmjjaa
open Go.RowKit
set_option linter.unusedVariables false

/-- the selection that the law makes: its box in block g, its places in a row of its own -/
def SelSt (g : Nat) (L : Nat) (w0 wr : World) : Prop :=
  ∃ pl sum sv, Blk wr g 29 #[sv, .int .i64 sum] ∧ wr.ownsRow (g + 1) 3 1 sv pl.length (I64 pl) ∧ pl.length ≤ L ∧ Below g w0 wr
theorem SelSt.drew {g L : Nat} {w0 w : World} (h : SelSt g L w0 w) : SelSt g L w0 w.drew := by
  obtain ⟨pl, sum, sv, h1, h2, h3, h4⟩ := h
  exact ⟨pl, sum, sv, h1, h2, h3, h4.drew⟩
theorem SelSt.more {g L L' : Nat} {w0 w : World} (h : SelSt g L w0 w) (hL : L ≤ L') : SelSt g L' w0 w := by
  obtain ⟨pl, sum, sv, h1, h2, h3, h4⟩ := h
  exact ⟨pl, sum, sv, h1, h2, by omega, h4⟩
theorem sel_push {w w1 w0 : World} {g L : Nat} {pl : List Int} {sum x s' : Int} {sv v : Value} (hB : Blk w g 29 #[sv, .int .i64 sum]) (ho : w.ownsRow (g + 1) 3 1 sv pl.length (I64 pl)) (hl : pl.length ≤ L) (hb : Below g w0 w)
    (hown : w1.ownsRow (g + 1) 3 1 v (pl.length + 1) (I64 pl ++ [.int .i64 x])) (hg1 : w.grownBy w1 sv.ownBlock) :
    Blk w1 g 29 #[sv, .int .i64 sum] ∧ SelSt g (L + 1) w0 ((w1.setCell ⟨g, 0, none⟩ v).setCell ⟨g, 1, none⟩ (.int .i64 s')) ∧ Below g w0 (w1.setCell ⟨g, 0, none⟩ v) ∧ Blk (w1.setCell ⟨g, 0, none⟩ v) g 29 #[v, .int .i64 sum] := by
  have hB1 := hB.grown hg1 (own_blk_ne ho hB (by decide)).symm
  have hB2 : Blk (w1.setCell ⟨g, 0, none⟩ v) g 29 #[v, .int .i64 sum] := by simpa using hB1.set_ 0 v
  have hb1 : Below g w0 (w1.setCell ⟨g, 0, none⟩ v) := (hb.grown hg1 (Nat.le_of_lt hB.lt) (fun k hk => by have := (ho.lt k hk).1; omega)).setCell (p := ⟨g, 0, none⟩) (Nat.le_refl _) v
  refine ⟨hB1, ⟨pl ++ [x], s', v, by simpa using hB2.set_ 1 (.int .i64 s'), ?_, by simp; omega, hb1.setCell (p := ⟨g, 1, none⟩) (Nat.le_refl _) _⟩, hb1, hB2⟩
  have h1 := own_setCell_far (i := 0) hown hB1 (by decide) v
  have h2 := own_setCell_far (i := 1) h1 hB2 (by decide) (.int .i64 s')
  simpa using h2

def Enters (P : Program) (f : FuncId) : Prop := ∀ (args : Array Value) (w : World), (callFunc f args).run P w = .ok (.enter f args) w
theorem enters_of {P : Program} {f : FuncId} {fn : Func} {c : Code} (hf : P.funcs[f]? = some fn) (hname : (fn.name == "runtime.NumGoroutine") = false) (hb : fn.body = some c) : Enters P f := by
  intro args w
  have h1 : fn.name ≠ "runtime.NumGoroutine" := by simpa using hname
  simp [callFunc, hf, h1, hb]
theorem ent14 : Enters Try.prog 14 := enters_of Try.func14 (by kernel_rfl) rfl
theorem run_gocall {P : Program} {o : Oper} {a : Act} {w : World} (f : FuncId) (E : Enters P f) (args : Array Operand) (tys : Array TypeId) (ho : o.op = .call { callee := .value (.func f), args := args, argTypes := tys }) (vals : Array Value) (hv : args.map a.eval = vals) :
    (execOp a.eval o).run P w = .ok (.enter f vals) w := by
  subst hv
  simp [execOp, ho, resolve, invoke, Act.eval, go_sem, E _ _]
/-- a call of a Go function as a step of a region that draws its order -/
theorem step_gocall {P : Program} {ops : Array Oper} {o : Oper} {a : Act} {w : World} {K : Act → World → Prop} {Q : Exit → Act → World → Prop} {F : Prop} (hgd : o.guard = none) (f : FuncId) (E : Enters P f) (args : Array Operand) (tys : Array TypeId)
    (ho : o.op = .call { callee := .value (.func f), args := args, argTypes := tys }) (vals : Array Value) (hv : args.map a.eval = vals)
    (h : Calls P f vals w fun e w' => ∃ v, e = .returned v ∧ K (a.put o.dst v) w') : if Region.wanted o (yielded ops a.tmps) = true then Oper.wp P o a w K Q else F := by
  have hw : Region.wanted o (yielded ops a.tmps) = true := by simp [Region.wanted, hgd]
  rw [if_pos hw]
  unfold Oper.wp
  rw [run_gocall f E args tys ho vals hv, Oper.upon_enter]
  refine h.mono fun e w'' hh => ?_
  obtain ⟨v, rfl, hk⟩ := hh
  exact hk
theorem check_vals {zs ps tr : List Int} {t s : Int} (h : selCheckV zs t ps s tr = 0) : Vals zs := by
  by_cases h0 : 16 < zs.length ∨ 16384 < tr.length
  · rw [scv_limit h0] at h; cases h
  · by_cases h1 : checkV zs t = 0
    · exact ((checkV_ok zs t).1 h1).1
    · rw [scv_check h0 h1] at h; exact absurd h h1

set_option maxRecDepth 100000 in
set_option maxHeartbeats 2000000 in
theorem selectionProves_any (A0 A1 A2 : Option Addr) (n0 c0 n1 c1 n2 c2 : Nat) (ls trc ps : List Int) (w : World) (hr0 : Rd w w.heap.size A0 (I64 ls)) (hl0 : ls.length = n0) (hm0 : n0 ≤ maxLen)
    (hr1 : Rd w w.heap.size A1 (U8 trc)) (hl1 : trc.length = n1) (hc1 : n1 ≤ c1) (hr2 : Rd w w.heap.size A2 (I64 ps)) (hl2 : ps.length = n2) :
    Calls Try.prog 5 #[.slice A0 n0 c0, .slice A1 n1 c1, .slice A2 n2 c2] w fun e w' => e = .returned (.bool true) ∧ Below w.heap.size w w' := by
  have HR0 := Lib.hid hr0; clear hr0
  have HL0 := Lib.hid hl0; clear hl0
  have HR1 := Lib.hid (show IsBytes w w.heap.size (.slice A1 n1 c1) from ⟨A1, n1, c1, trc, rfl, hr1, hl1, hc1⟩); clear hr1 hl1
  have HR2 := Lib.hid hr2; clear hr2
  have HL2 := Lib.hid hl2; clear hl2
  by_cases h100 : 100 < n1
  · go_enter Try.func5, Try.ntmps5
    go_wp2_with fail
    refine (sane_any _).mono ?_
    rintro e w1 ⟨rfl, hb1⟩
    go_wp2
    go_ret
    exact ⟨rfl, hb1⟩
  · by_cases h8 : 8 < n2
    · go_enter Try.func5, Try.ntmps5
      go_wp2_with fail
      refine (sane_any _).mono ?_
      rintro e w1 ⟨rfl, hb1⟩
      go_wp2
      go_ret
      exact ⟨rfl, hb1⟩
    · have hd1 : decide ((100 : Int) < (n1 : Int)) = false := by simp; omega
      have hd2 : decide ((8 : Int) < (n2 : Int)) = false := by simp; omega
      go_enter Try.func5, Try.ntmps5
      go_wp2_with fail
      refine (sane_any _).mono ?_
      rintro e w1 ⟨rfl, hb1⟩
      have hz1 := hb1.size
      go_wp2_with fail
      refine (made_any A0 n0 c0 ls 6 w1 ((HR0.out.below hb1 (Nat.le_refl _)).more (by omega)) HL0.out hm0 (by omega) (by omega)).mono ?_
      rintro e w2 ⟨v, rfl, hv, hb2⟩
      have hz2 := hb2.size
      have hk := (nextV_bd ls (6 + 1) (by omega))
      obtain ⟨vA, vc, rfl, hvc⟩ := slice_of_own hv
      have HV := Lib.hid (Rd.of_own hv)
      have HVL := Lib.hid (madeVals_len ls (madeK ls 6))
      have hkk : madeK ls 6 ≤ 6 := by unfold madeK; omega
      have HB2 := Lib.hid (hb1.trans (hb2.mono (by omega)))
      have HR22 := Lib.hid ((HR2.out.below HB2.out (Nat.le_refl _)).more (show w.heap.size ≤ w2.heap.size by omega))
      have HR12 := Lib.hid ((HR1.out.below HB2.out (Nat.le_refl _)).more (show w.heap.size ≤ w2.heap.size by omega))
      generalize madeT ls 6 = t1 at *
      generalize madeVals ls (madeK ls 6) = vs at *
      generalize madeK ls 6 = vn at *
      clear hv hb1 hb2 hk
      go_wp2_with fail
      go_loopw [10, 12, 35] (fun _ _ i wr => ∃ k : Nat, k ≤ vn ∧ i = .int .i64 k ∧ SelSt w2.heap.size (k * 8) w2 wr) (fun _ _ i _ => vn - (intOf i).toNat)
      case atStart => exact ⟨0, Nat.zero_le _, rfl, [], 0, .slice none 0 0, Blk.new _ _ _, World.ownsRow_nil _ _ _ _, by simp, (Below.refl _ _).alloc (Nat.le_refl _) _⟩
      case round =>
        obtain ⟨k, hk, rfl, hst⟩ := hrel
        obtain ⟨wo, rfl⟩ : ∃ wo : World, wo = wr := ⟨_, rfl⟩
        by_cases hlt : k < vn
        · have hdk : decide ((k : Int) < (vn : Int)) = true := by simp; omega
          have HST := Lib.hid hst
          clear hst
          go_wp2_with fail
          go_loopw [12, 40] (fun _ i wr => ∃ j : Nat, j ≤ n2 ∧ i = .int .i64 j ∧ SelSt w2.heap.size (k * 8 + j) w2 wr) (fun _ i _ => n2 - (intOf i).toNat)
          case atStart => exact ⟨0, Nat.zero_le _, rfl, HST.out⟩
          case round =>
            obtain ⟨j, hj, rfl, pl, sum, sv, hB, ho, hpl, hbl⟩ := hrel
            clear HST
            by_cases hjt : j < n2
            · have hjl : j < ps.length := by rw [HL2.out]; exact hjt
              obtain ⟨ad, rfl, hadb, hcell⟩ := (HR22.out.below hbl (Nat.le_refl _)).at_ (get_i64 hjl)
              have HMO := Lib.hid (mod_any ps[j] 7 wr (by omega) (by omega))
              generalize ps[j] = p at *
              have hm7 : 0 ≤ p % 7 ∧ p % 7 < 7 := by omega
              generalize p % 7 = m7 at *
              obtain ⟨sA, sc, rfl, hsc⟩ := slice_of_own ho
              have HB := Lib.hid hB
              have HO := Lib.hid ho
              have HBL := Lib.hid hbl
              have hgs := hB.lt
              have s0 := hB.cell 0
              have s1 := hB.cell 1
              have f0 := hB.frozen 0
              simp at s0 s1
              have hdj : decide ((j : Int) < (n2 : Int)) = true := by simp; omega
              clear hB ho hbl
              by_cases hm : m7 = k
              · have hdm : (m7 == (k : Int)) = true := by simp [hm]
                have HM := Lib.hid hm
                clear hm
                have hkl : k < vs.length := by rw [HVL.out]; exact hlt
                obtain ⟨vd, hA, hvdb, hcz⟩ := (HV.out).at_ (get_i64 hkl)
                subst hA
                generalize vs[k] = z at *
                by_cases hp0 : pl.length = 0
                · have hd0 : ((pl.length : Int) == 0) = true := by simp [hp0]
                  clear hp0
                  go_wp2_with fail
                  refine HMO.out.mono ?_
                  rintro e w3 ⟨rfl, rfl⟩
                  go_wp2_with (at_builtin; refine wpList_push _ _ rfl (.tmp 67) (.tmp 69) 22 rfl el22 (w2.heap.size + 1) (.slice sA pl.length sc) pl.length _ rfl HO.out rfl rfl (one_int _ _) (by omega) (by omega) ?_; intro v4 w4 hown4 hg4 hat4; have HF4 := Lib.hid (fun s' => sel_push (s' := s') HB.out HO.out hpl HBL.out hown4 hg4); have hB4 := (HF4.out 0).1; have t0 := hB4.cell 0; have t1' := hB4.cell 1; have u0 := hB4.frozen 0; have u1 := hB4.frozen 1; simp at t0 t1'; obtain ⟨nA, nc, rfl, hnc⟩ := slice_of_own hown4; have t2 := ((HF4.out 0).2.2.1.cell (p := vd.add k) (by rw [block_of_add]; exact hvdb)).trans hcz; have t3 := (HF4.out 0).2.2.2.cell 1; have t4 := (HF4.out 0).2.2.2.frozen 1; simp at t3; clear hown4 hg4 hat4 hB4)
                  go_region
                  go_wp2_with fail
                  go_roundw
                  case rel => exact ⟨j + 1, by omega, by go_num, (HF4.out _).2.1.drew.more (by omega)⟩
                  case measure => simp [intOf]; omega
                · have hd0 : ((pl.length : Int) == 0) = false := by simp; intro h; exact hp0 (by simp [h])
                  have hp1 : 1 ≤ pl.length := by omega
                  obtain ⟨g', cap', hv', hg1', hg2'⟩ := HO.out.form (by omega)
                  injection hv' with hA hn' hc'
                  subst hA hc'
                  clear hn'
                  have hlast := HO.out.cellAt (pl.length - 1) (by omega)
                  have hll : pl.length - 1 < pl.length := by omega
                  rw [get_i64 hll] at hlast
                  generalize pl[pl.length - 1] = q at *
                  clear hp0
                  obtain ⟨sA, hsA⟩ : ∃ sA : Option Addr, sA = some ⟨g', 0, none⟩ := ⟨_, rfl⟩
                  by_cases hq : q = k
                  · have hdq : (q != (k : Int)) = false := by simp [hq]
                    clear hq
                    go_wp2_with fail
                    refine HMO.out.mono ?_
                    rintro e w3 ⟨rfl, rfl⟩
                    go_wp2_with fail
                    go_roundw
                    case rel => exact ⟨j + 1, by omega, by go_num, pl, sum, _, HB.out, HO.out, by omega, HBL.out⟩
                    case measure => simp [intOf]; omega
                  · have hdq : (q != (k : Int)) = true := by simp [bne_iff_ne, hq]
                    clear hq
                    go_wp2_with fail
                    refine HMO.out.mono ?_
                    rintro e w3 ⟨rfl, rfl⟩
                    go_wp2_with (at_builtin; refine wpList_push _ _ rfl (.tmp 67) (.tmp 69) 22 rfl el22 (w2.heap.size + 1) (.slice (some ⟨g', 0, none⟩) pl.length sc) pl.length _ rfl HO.out rfl rfl (one_int _ _) (by omega) (by omega) ?_; intro v4 w4 hown4 hg4 hat4; have HF4 := Lib.hid (fun s' => sel_push (s' := s') HB.out HO.out hpl HBL.out hown4 hg4); have hB4 := (HF4.out 0).1; have t0 := hB4.cell 0; have t1' := hB4.cell 1; have u0 := hB4.frozen 0; have u1 := hB4.frozen 1; simp at t0 t1'; obtain ⟨nA, nc, rfl, hnc⟩ := slice_of_own hown4; have t2 := ((HF4.out 0).2.2.1.cell (p := vd.add k) (by rw [block_of_add]; exact hvdb)).trans hcz; have t3 := (HF4.out 0).2.2.2.cell 1; have t4 := (HF4.out 0).2.2.2.frozen 1; simp at t3; clear hown4 hg4 hat4 hB4)
                    go_region
                    go_wp2_with fail
                    go_roundw
                    case rel => exact ⟨j + 1, by omega, by go_num, (HF4.out _).2.1.drew.more (by omega)⟩
                    case measure => simp [intOf]; omega
              · have hdm : (m7 == (k : Int)) = false := by simp [hm]
                clear hm
                go_wp2_with fail
                refine HMO.out.mono ?_
                rintro e w3 ⟨rfl, rfl⟩
                go_wp2_with fail
                go_roundw
                case rel => exact ⟨j + 1, by omega, by go_num, pl, sum, _, HB.out, HO.out, by omega, HBL.out⟩
                case measure => simp [intOf]; omega
            · go_wp2_with fail
              go_roundw
              case rel => exact ⟨k + 1, by omega, by go_num, pl, sum, sv, hB, ho, by omega, hbl⟩
              case measure => simp [intOf]; omega
        · obtain ⟨pl, sum, sv, hB, ho, hpl, hbl⟩ := hst
          have hzo := hB.lt
          have HB := Lib.hid hB
          have HSV := Lib.hid (show IsPlaces wo wo.heap.size sv by
            obtain ⟨sA, sc, rfl, hsc⟩ := slice_of_own ho
            exact ⟨sA, _, sc, _, rfl, Rd.of_own ho, rfl, by omega⟩)
          have HVO := Lib.hid (HV.out.below hbl (Nat.le_refl _))
          have HBO := Lib.hid hbl
          have HR1O := Lib.hid (HR12.out.below hbl (Nat.le_refl _))
          clear hB ho hbl
          go_wp2_with fail
          refine (rbest_any vA vn vc vs t1 wo (HVO.out.more (by omega)) HVL.out hvc (by unfold maxLen; omega)).mono ?_
          rintro e w3 ⟨pv, tv, rfl, hpv, htv, hb3⟩
          have hz3 := hb3.size
          generalize rbestV vs t1 = R at *
          obtain ⟨pA, pc, rfl, hpc⟩ := slice_of_own hpv
          obtain ⟨tA, tc, rfl, htc⟩ := slice_of_own htv
          have HT := Lib.hid (show IsBytes w3 w3.heap.size (.slice tA R.trace.length tc) from ⟨tA, _, tc, _, rfl, Rd.of_own htv, rfl, htc⟩)
          have HB3 := Lib.hid (HB.out.below hb3 hzo)
          have HSV3 := Lib.hid (HSV.out.below hb3 (Nat.le_refl _))
          have HV3 := Lib.hid (HVO.out.below hb3 (by omega))
          have HR13 := Lib.hid (HR1O.out.below hb3 (by omega))
          have HBW3 := Lib.hid (HBO.out.trans (hb3.mono (by omega)))
          clear hpv htv hb3
          go_wp2_with fail
          go_loopw [17, 93] (fun _ i wr => ∃ j : Nat, j ≤ 2 ∧ i = .int .i64 j ∧ Below (w3.heap.size + 2) ((w3.alloc (.cells #[.slice pA R.places.length pc, .int .i64 R.sum] 29)).alloc (.cells #[.slice A1 n1 c1, .slice tA R.trace.length tc] 30)) wr) (fun _ i _ => 2 - (intOf i).toNat)
          case atStart => exact ⟨0, by omega, rfl, Below.refl _ _⟩
          case round =>
            obtain ⟨j, hj, rfl, hbi⟩ := hrel
            have hzi : w3.heap.size + 2 ≤ wr.heap.size := by have := hbi.size; simpa using this
            have hbi' : Below w3.heap.size w3 wr := (((Below.refl _ w3).alloc (Nat.le_refl _) _).alloc (by simp) _).trans (hbi.mono (by omega))
            by_cases hjt : j < 2
            · obtain ⟨zA, zn, zc, zs, hcz, hz⟩ : ∃ zA zn zc zs, wr.cell? ⟨w3.heap.size + 1, j, none⟩ = some (.slice zA zn zc) ∧ (Rd wr w3.heap.size zA (U8 zs) ∧ zs.length = zn ∧ zn ≤ zc) := by
                have hB : Blk wr (w3.heap.size + 1) 30 #[.slice A1 n1 c1, .slice tA R.trace.length tc] := (Blk.new_ (by simp)).below hbi (by omega)
                obtain ⟨A, n, c, zs, h0, h1⟩ := (HT.out.below hbi' (Nat.le_refl _))
                obtain ⟨A', n', c', zs', h0', h1'⟩ := ((HR13.out.more (show w2.heap.size ≤ w3.heap.size by omega)).below hbi' (Nat.le_refl _))
                rcases (show j = 0 ∨ j = 1 by omega) with rfl | rfl
                · exact ⟨A', n', c', zs', by rw [hB.cell, ← h0']; rfl, h1'⟩
                · exact ⟨A, n, c, zs, by rw [hB.cell, ← h0]; rfl, h1⟩
              have hYB := HB3.out.below hbi' (by omega)
              obtain ⟨yA, yn, yc, ys, hsv, hy1, hy2, hy3⟩ := (HSV3.out.below (hbi'.mono hz3) (Nat.le_refl _))
              subst hsv
              have y0 := hYB.cell 0
              have y1 := hYB.cell 1
              simp at y0 y1
              have hdj : decide ((j : Int) < 2) = true := by simp; omega
              have HBI := Lib.hid hbi
              have HVR := Lib.hid (HV3.out.below (hbi'.mono (show w2.heap.size ≤ w3.heap.size by omega)) (Nat.le_refl _))
              have HYR := Lib.hid hy1
              have HYL := Lib.hid hy2
              have HZR := Lib.hid hz
              have HS1 := Lib.hid (fun W (hb : Below wr.heap.size wr W) => scheck_any vA yA zA vn vc yn yc zn zc vs ys zs t1 sum W w3.heap.size (by have := hb.size; omega) ((HVR.out.below hb (by omega)).more (by omega)) ((HYR.out.below hb (by omega)).more hz3) (HZR.out.1.below hb (by omega)) HVL.out hvc (by unfold maxLen; omega) HYL.out (by unfold maxLen; omega) HZR.out.2.1 HZR.out.2.2)
              have hylt : w2.heap.size < wr.heap.size := by omega
              have HCL := Lib.hid (fun h => check_least (zs := vs) (t := t1) (ps := ys) (s := sum) (tr := zs) h)
              have HCV := Lib.hid (fun h => check_vals (zs := vs) (t := t1) (ps := ys) (s := sum) (tr := zs) h)
              generalize selCheckV vs t1 ys sum zs = cv at *
              clear hz hbi hbi' hYB hy1 hy2
              by_cases hcv : cv = 0
              · have hdc : (cv == 0) = true := by simp [hcv]
                have hV := HCV.out hcv
                have hsum := HCL.out hcv
                rw [HVL.out] at hsum
                have HLE := Lib.hid (fun W (hb : Below wr.heap.size wr W) => lleast_any vA vn vc vs t1 W w2.heap.size (HVR.out.below hb (by omega)) HVL.out hV)
                rw [← hsum] at HLE
                have hne : (sum != sum) = false := by simp
                clear hcv hV hsum
                go_wp2_with fail
                go_region_held3 (fun w' => w'.cell? ⟨w2.heap.size, 0, none⟩ = some (.slice yA yn yc) ∧ w'.cell? ⟨w2.heap.size, 1, none⟩ = some (.int .i64 sum)) (first | go_keep | assumption)
                  (first
                  | ((go_at_call 14; refine (HS1.out wr.drew (Below.refl _ _).drew).mono ?_; rintro e w7 ⟨rfl, hb7'⟩; have hb7 : Below wr.heap.size wr w7 := (Below.refl _ _).drew.trans hb7'; have y0' := (hb7.cell (p := ⟨w2.heap.size, 0, none⟩) hylt).trans y0; have y1' := (hb7.cell (p := ⟨w2.heap.size, 1, none⟩) hylt).trans y1; have HB7 := Lib.hid hb7))
                  | ((go_at_call 16; refine (HLE.out w7 HB7.out).mono ?_; rintro e w8 ⟨rfl, rfl⟩)))
                have HBR := Lib.hid (HBI.out.trans (HB7.out.mono hzi))
                clear hb7 hb7' y0 y1 y0' y1'
                go_wp2_with fail
                go_roundw
                case rel => exact ⟨j + 1, by omega, by go_num, HBR.out⟩
                case measure => simp [intOf]; omega
              · have hdc : (cv == 0) = false := by simp [hcv]
                clear hcv
                go_wp2_with fail
                first | (go_region_with (go_at_call 14; refine (HS1.out wr.drew (Below.refl _ _).drew).mono ?_; rintro e w7 ⟨rfl, hb7'⟩)) | fail
                all_goals
                  have HBR := Lib.hid (HBI.out.trans (((Below.refl wr.heap.size wr).drew.trans hb7').mono hzi))
                  clear hb7'
                  go_wp2_with fail
                  go_roundw
                  case rel => exact ⟨j + 1, by omega, by go_num, HBR.out⟩
                  case measure => simp [intOf]; omega
            · have HBE := Lib.hid (HB2.out.trans (HBW3.out.mono (by omega)) |>.trans (hbi'.mono (by omega)))
              clear hbi hbi'
              go_wp2
              go_ret
              exact ⟨rfl, HBE.out⟩
end Go.Proofs.Ytlajgdeoobmjjaa
