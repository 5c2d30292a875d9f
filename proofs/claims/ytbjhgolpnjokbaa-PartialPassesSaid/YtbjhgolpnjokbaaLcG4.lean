import Derived.Test.YtbjhgolpnjokbaaLcG3
section
namespace Go.Lc
open Go.RowKit
open Go.Av
set_option linter.unusedVariables false
set_option linter.unusedSimpArgs false
set_option maxRecDepth 100000
structure ZdY (p : Tapi_Plan) : Prop where
 inl : p.1.2.1.length ≤ 1000
 inw : ∀ x ∈ p.1.2.1, x.2.2 = []
 oul : p.1.2.2.1.length ≤ 1000
 ous : ∀ o ∈ p.1.2.2.1, o.2.length ≤ 1000000
 col : p.2.1.length ≤ 1000
 cos : ∀ c ∈ p.2.1, c.2.1.2.length ≤ 1000000
theorem citems_nil : YP [] = some [] := by
 unfold YP Yj
 rw [ZV (by simp), Zb]
 refine Zba ?_
 simp only [ZbP]
 rw [if_neg (by simp)]
 rfl
theorem ZkT {α : Type} {l : List α} {i : Nat} (h : i < l.length) {x : α} (hx : x = l[i]) : l.set i x = l := by
 subst hx
 exact List.set_getElem_self h
theorem ZqT {p : Tapi_Plan} (h : ZdY p) : Xj p.1 = some p.1 := by
 have hi := h.inl
 have ho := h.oul
 have hf : Zbg p.1.2.2.1 p.1 p.1.2.1 = some p.1 := by
  unfold Zbg
  refine Yt (step := Zac p.1.2.2.1 p.1 p.1.2.1) (fun i => ((i : Int), p.1.2.2.1)) p.1.2.2.1.length (x := some p.1) (fun i hi => ?_) ?_
  ·simp only [Zac]
   have := h.ous _ (List.getElem_mem hi)
   rw [if_pos (by omega), Zbc hi, Zia hi, Xi, ZV (by omega), Zb, ZkT hi rfl, Z6 hi (by omega)]
  ·simp only [Zac]
   rw [if_neg (by omega)]
   rfl
 unfold Xj Z3 Z1
 rw [ZV (by omega), Zb, ZV (by omega), Zb]
 refine Yt (step := Zad p.1.2.1 p.1.2.2.1 p.1) (fun i => ((i : Int), p.1.2.1)) p.1.2.1.length (x := some p.1) (fun i hi => ?_) ?_
 ·simp only [Zad]
  rw [if_pos (by omega), Zbc hi, Zia hi, h.inw _ (List.getElem_mem hi), citems_nil, Zb, ZkT hi (by rw [← h.inw _ (List.getElem_mem hi)]), Z6 hi (by omega)]
 ·simp only [Zad]
  rw [if_neg (by omega), hf]
theorem ZoU {p : Tapi_Plan} (h : ZdY p) : YL p = some p := by
 have hc := h.col
 unfold YL Z4
 rw [ZqT h, Zb, ZV (by omega), Zb]
 refine Yt (step := XN p.2.1 p.1 p) (fun i => ((i : Int), p.2.1)) p.2.1.length (x := some p) (fun i hi => ?_) ?_
 ·simp only [XN]
  have := h.cos _ (List.getElem_mem hi)
  rw [if_pos (by omega), Zbc hi, Zia hi, Xi, ZV (by omega), Zb, ZkT hi rfl, Z6 hi (by omega)]
 ·simp only [XN]
  rw [if_neg (by omega)]
  rfl
theorem Zdg {step : Int → Option (Int ⊕ Bool)} (n : Nat) (hn : n ≤ 9223372036854775807) (h : ∀ i, i < n → step (i : Int) = some (.inl (IntKind.i64.wrap ((i : Int) + 1)))) (he : step (n : Int) = (some true).map Sum.inr) : Zs step 0 = some true :=
 Yt (step := step) (fun i => (i : Int)) n (x := some true) (fun i hi => by rw [h i hi, Z6 hi hn]) he
theorem ZoV (l : List (List Int)) (hl : l.length ≤ 1000000) : ZH l l = some true := by
 unfold ZH
 rw [if_neg (by simp)]
 refine Zdg l.length (by omega) (fun i hi => ?_) ?_
 ·simp only [Z8]
  rw [if_pos (by omega), Zx hi, Zx hi, X2, Zb, if_neg (by simp)]
 ·simp only [Z8]
  rw [if_neg (by omega)]
  rfl
def pf (p : Tapi_Plan) (f : Int) : Tapi_Plan := (p.1, p.2.1, f, p.2.2.2)
theorem Zmc (o : Tapi_Output) : YE o o = some true := by
 unfold YE X2
 simp
theorem ZqU {p : Tapi_Plan} (h : ZdY p) (f : Int) : Y3 p (pf p f) = some (decide (p.2.2.1 = f)) := by
 have hin : Zq p.1.2.1 p.1.2.1 = some true := by
  have := h.inl
  unfold Zq
  rw [if_neg (by simp)]
  refine Zdg p.1.2.1.length (by omega) (fun i hi => ?_) ?_
  ·simp only [ZQ]
   rw [if_pos (by omega), Zx hi, Zx hi, Y4, if_pos (by simp), h.inw _ (List.getElem_mem hi), ZoV _ (by simp)]
   simp
  ·simp only [ZQ]
   rw [if_neg (by omega)]
   rfl
 have hou : Zp p.1.2.2.1 p.1.2.2.1 = some true := by
  have := h.oul
  unfold Zp
  rw [if_neg (by simp)]
  refine Zdg p.1.2.2.1.length (by omega) (fun i hi => ?_) ?_
  ·simp only [ZO]
   rw [if_pos (by omega), Zx hi, Zx hi, Zmc, Zb, if_neg (by simp)]
  ·simp only [ZO]
   rw [if_neg (by omega)]
   rfl
 have hco : Zt p.2.1 p.2.1 = some true := by
  have := h.col
  unfold Zt
  rw [if_neg (by simp)]
  refine Zdg p.2.1.length (by omega) (fun i hi => ?_) ?_
  ·simp only [ZS]
   rw [if_pos (by omega), Zx hi, Zx hi, Y5, if_pos (by simp), Zmc]
   simp
  ·simp only [ZS]
   rw [if_neg (by omega)]
   rfl
 unfold Y3 pf
 simp only [hin, hou, hco]
 by_cases hf : p.2.2.1 = f <;> simp [hf]
theorem Zmd (o : Tapi_Output) : Xo o o = some true := by
 unfold Xo ZaV
 simp
theorem ZqV {p : Tapi_Plan} (h : ZdY p) : Zaa p.1 p.1 = some true := by
 have h1 := h.inl
 have h2 := h.oul
 have hk : Zco p.1 p.1 = some true := by
  unfold Zco
  refine Zdg p.1.2.2.1.length (by omega) (fun i hi => ?_) ?_
  ·simp only [Zcn]
   rw [if_pos (by omega), Zx hi, Zx hi, Zmd, Zb, if_neg (by simp)]
  ·simp only [Zcn]
   rw [if_neg (by omega)]
   rfl
 unfold Zaa
 rw [if_neg (by simp)]
 refine Zdg p.1.2.1.length (by omega) (fun i hi => ?_) ?_
 ·simp only [Zcp]
  rw [if_pos (by omega), Zx hi, Zx hi, if_neg (by simp)]
  refine ZdK ?_
  simp only [Zd3]
  rw [h.inw _ (List.getElem_mem hi), if_neg (by simp)]
  rfl
 ·simp only [Zcp]
  rw [if_neg (by omega), hk]
theorem ZpR {p : Tapi_Plan} (h : ZdY p) (f : Int) : ZaZ p (pf p f) = some (decide (p.2.2.1 = f)) := by
 have hc := h.col
 unfold ZaZ pf
 rw [ZqV h, Zb]
 by_cases hf : p.2.2.1 = f
 ·rw [if_neg (by simp [hf]), decide_eq_true hf]
  refine Zdg p.2.1.length (by omega) (fun i hi => ?_) ?_
  ·simp only [Zdu]
   rw [if_pos (by omega), Zx hi, Zx hi, X3, if_pos (by simp), Zmd]
   simp
  ·simp only [Zdu]
   rw [if_neg (by omega)]
   rfl
 ·rw [if_pos (by simp [hf])]
  simp [hf]
theorem ZfP {p : Tapi_PartialTx} (h : ZdY p.1) (hl : p.2.length ≤ 1000000) : Xl p p = some true := by
 have e := ZpR h p.1.2.2.1
 rw [show pf p.1 p.1.2.2.1 = p.1 from rfl] at e
 unfold Xl
 rw [e, Zb, if_neg (by simp)]
 refine Zdg p.2.length (by omega) (fun i hi => ?_) ?_
 ·simp only [Zdv]
  rw [if_pos (by omega), Zx hi, Zx hi, if_neg (by simp)]
 ·simp only [Zdv]
  rw [if_neg (by omega)]
  rfl
noncomputable def Zhc (p : Tapi_Plan) : Bool := (Xw p).getD false
theorem Znp (p : Tapi_Plan) : Xw p = some (Zhc p) ∧ Zb2 p = some (Zhc p) := by
 obtain ⟨b, h1, h2⟩ := ZoQ p
 have : Zhc p = b := by unfold Zhc; rw [h1]; rfl
 rw [this]
 exact ⟨h1, h2⟩
theorem planV_zero : Zhc ((0, [], [], 0), [], 0, 0) = false := by
 have h := Zli _ _ zero_val
 rw [(Znp _).2] at h
 exact Option.some.inj h
def ZbS (l : List Tapi_Signed) : Prop := ∀ s ∈ l, dig s.2.2.1 ∧ dig s.2.2.2
def Xp (p : Tapi_PartialTx) : Prop := Zhc p.1 = true ∧ (∀ s ∈ p.2, (0 ≤ s.1 ∧ s.1 < p.1.1.2.1.length) ∧ Zbe s.2.2.1 ∧ Zbe s.2.2.2) ∧ Asc p.2
theorem ZrS {l : List Tapi_Signed} (h : ∀ i (h : i + 1 < l.length), ltS (l[i]'(by omega)) (l[i + 1]'h)) : Asc l := by
 refine List.pairwise_iff_getElem.2 ?_
 intro i j hi hj hij
 induction j with
 | zero => omega
 | succ j ih =>
  by_cases e : i = j
  ·subst e; exact h i hj
  ·exact ZjD (ih (by omega) (by omega)) (h j hj)
def ZlG (p : Tapi_PartialTx) (i : Nat) : Prop := ∃ h : i < p.2.length, ¬ ((0 ≤ p.2[i].1 ∧ p.2[i].1 < p.1.1.2.1.length) ∧ Zbe p.2[i].2.2.1 ∧ Zbe p.2[i].2.2.2 ∧ (0 < i → ltS (p.2[i - 1]'(by omega)) p.2[i]))
theorem Zme {p : Tapi_PartialTx} (hp : Zhc p.1 = true) : (¬ ∃ i, i < p.2.length ∧ ZlG p i) ↔ Xp p := by
 constructor
 ·intro hn
  have hg : ∀ i (h : i < p.2.length), (0 ≤ p.2[i].1 ∧ p.2[i].1 < p.1.1.2.1.length) ∧ Zbe p.2[i].2.2.1 ∧ Zbe p.2[i].2.2.2 ∧ (0 < i → ltS (p.2[i - 1]'(by omega)) p.2[i]) := fun i h => Classical.byContradiction fun hc => hn ⟨i, h, h, hc⟩
  refine ⟨hp, fun s hs => ?_, ZrS fun i h => ?_⟩
  ·obtain ⟨i, hi, rfl⟩ := List.getElem_of_mem hs
   exact ⟨(hg i hi).1, (hg i hi).2.1, (hg i hi).2.2.1⟩
  ·exact (hg (i + 1) h).2.2.2 (by omega)
 ·rintro ⟨_, h1, h2⟩ ⟨i, _, h, hb⟩
  refine hb ⟨(h1 _ (List.getElem_mem h)).1, (h1 _ (List.getElem_mem h)).2.1, (h1 _ (List.getElem_mem h)).2.2, fun hi => ?_⟩
  exact List.pairwise_iff_getElem.1 h2 (i - 1) i (by omega) h (by omega)
theorem ord_ref : Lref05_Order = some ordA := Fref05_Order_le _ order_val
theorem Zfv (a : Arr 4) : (0 ≤ ZdC a ordA) ↔ ¬ Zbe a := by unfold Zbe; omega
open Classical in
theorem Zeo (p : Tapi_PartialTx) (hs : ZbS p.2) (hl : p.2.length ≤ 1000000) : YZ p = some (decide (Xp p)) ∧ Zjb p = some (decide (Xp p)) := by
 obtain ⟨hv, hv2⟩ := Znp p.1
 unfold YZ Zjb
 rw [hv, hv2, Zb, Zb]
 by_cases hp : Zhc p.1 = true
 ·rw [if_neg (by simp [hp]), if_neg (by simp [hp])]
  have hd : decide (Xp p) = if ∃ i, i < p.2.length ∧ ZlG p i then false else true := by
   by_cases h : ∃ i, i < p.2.length ∧ ZlG p i
   ·rw [if_pos h, decide_eq_false]
    intro hc
    exact (Zme hp).2 hc h
   ·rw [if_neg h, decide_eq_true ((Zme hp).1 h)]
  have hq : ∀ o : Option Bool, o = (if ∃ i, i < p.2.length ∧ ZlG p i then some false else some true) → o = some (decide (Xp p)) := by
   intro o ho
   rw [ho, hd]
   split <;> rfl
  constructor
  ·refine hq _ ?_
   refine ZbQ (fun i => (i : Int)) p.2.length (ZlG p) (some false) (some true) (fun i hi _ hb => ?_) (fun i hi _ hb => ?_) (fun _ => ?_) rfl
   ·have hg : (0 ≤ p.2[i].1 ∧ p.2[i].1 < p.1.1.2.1.length) ∧ Zbe p.2[i].2.2.1 ∧ Zbe p.2[i].2.2.2 ∧ (0 < i → ltS (p.2[i - 1]'(by omega)) p.2[i]) := Classical.byContradiction fun hc => hb ⟨hi, hc⟩
    obtain ⟨g1, g2, g3, g4⟩ := hg
    obtain ⟨d1, d2⟩ := hs _ (List.getElem_mem hi)
    obtain ⟨r, e1, e2⟩ := Zno d1 d2
    simp only [ZaM]
    rw [if_pos (by omega), Zx hi, if_neg (by omega), Znn, Zb, e1, Zb, if_neg (by rw [e2]; simp [g2, g3])]
    by_cases h0 : 0 < i
    ·obtain ⟨c, c1, c2, c3⟩ := Zim (p.2[i - 1]'(by omega)) p.2[i]
     have := c2.2 (g4 h0)
     rw [if_pos (by omega), wi _ (by omega), show ((i : Int) - 1) = ((i - 1 : Nat) : Int) by omega, Zx (by omega), c1, Zb, Zb, if_neg (by simp; omega), Z6 hi (by omega)]
    ·rw [if_neg (by omega), Zb, if_neg (by omega), Z6 hi (by omega)]
   ·obtain ⟨_, hb⟩ := hb
    obtain ⟨d1, d2⟩ := hs _ (List.getElem_mem hi)
    obtain ⟨r, e1, e2⟩ := Zno d1 d2
    simp only [ZaM]
    rw [if_pos (by omega), Zx hi]
    by_cases g1 : 0 ≤ p.2[i].1 ∧ p.2[i].1 < p.1.1.2.1.length
    ·rw [if_neg (by omega), Znn, Zb, e1, Zb]
     by_cases g2 : Zbe p.2[i].2.2.1 ∧ Zbe p.2[i].2.2.2
     ·rw [if_neg (by rw [e2]; simp [g2])]
      have h0 : 0 < i := Classical.byContradiction fun h0 => hb ⟨g1, g2.1, g2.2, fun h => absurd h h0⟩
      have hn : ¬ ltS (p.2[i - 1]'(by omega)) p.2[i] := fun h => hb ⟨g1, g2.1, g2.2, fun _ => h⟩
      obtain ⟨c, c1, c2, c3⟩ := Zim (p.2[i - 1]'(by omega)) p.2[i]
      have : ¬ c < 0 := fun h => hn (c2.1 h)
      rw [if_pos (by omega), wi _ (by omega), show ((i : Int) - 1) = ((i - 1 : Nat) : Int) by omega, Zx (by omega), c1, Zb, Zb, if_pos (by simp; omega)]
      rfl
     ·rw [if_pos (by rw [e2]; exact g2)]
      rfl
    ·rw [if_pos (by omega)]
     rfl
   ·simp only [ZaM]
    rw [if_neg (by omega)]
    rfl
  ·refine hq _ ?_
   refine ZbQ (fun i => (i : Int)) p.2.length (ZlG p) (some false) (some true) (fun i hi _ hb => ?_) (fun i hi _ hb => ?_) (fun _ => ?_) rfl
   ·have hg : (0 ≤ p.2[i].1 ∧ p.2[i].1 < p.1.1.2.1.length) ∧ Zbe p.2[i].2.2.1 ∧ Zbe p.2[i].2.2.2 ∧ (0 < i → ltS (p.2[i - 1]'(by omega)) p.2[i]) := Classical.byContradiction fun hc => hb ⟨hi, hc⟩
    obtain ⟨g1, g2, g3, g4⟩ := hg
    have g2' := mt (Zfv p.2[i].2.2.1).1 (not_not_intro g2)
    have g3' := mt (Zfv p.2[i].2.2.2).1 (not_not_intro g3)
    have gr : ¬ (p.2[i].1 < 0 ∨ (p.1.1.2.1.length : Int) ≤ p.2[i].1) := by omega
    simp only [ZcU]
    rw [if_pos (by omega), Zx hi, if_neg gr, ord_ref, Zb, ZhH, Zb, Zb, if_neg (by simp [gr, g2']), Zb, ZhH, Zb, Zb, if_neg (by simp [gr, g2', g3'])]
    by_cases h0 : 0 < i
    ·rw [if_pos (by omega), wi _ (by omega), show ((i : Int) - 1) = ((i - 1 : Nat) : Int) by omega, Zx (by omega), Zl9, Zb, Zb, Zb, if_neg (by simp [gr, g2', g3', g4 h0]), Z6 hi (by omega)]
    ·rw [if_neg (by omega), Zb, Zb, if_neg (by simp [gr, g2', g3']), Z6 hi (by omega)]
   ·obtain ⟨_, hb⟩ := hb
    simp only [ZcU]
    rw [if_pos (by omega), Zx hi]
    by_cases g1 : 0 ≤ p.2[i].1 ∧ p.2[i].1 < p.1.1.2.1.length
    ·have gr : ¬ (p.2[i].1 < 0 ∨ (p.1.1.2.1.length : Int) ≤ p.2[i].1) := by omega
     rw [if_neg gr, ord_ref, Zb, ZhH, Zb, Zb]
     by_cases g2 : Zbe p.2[i].2.2.1
     ·have g2' := mt (Zfv p.2[i].2.2.1).1 (not_not_intro g2)
      rw [if_neg (by simp [gr, g2']), Zb, ZhH, Zb, Zb]
      by_cases g3 : Zbe p.2[i].2.2.2
      ·have g3' := mt (Zfv p.2[i].2.2.2).1 (not_not_intro g3)
       have h0 : 0 < i := Classical.byContradiction fun h0 => hb ⟨g1, g2, g3, fun h => absurd h h0⟩
       have hn : ¬ ltS (p.2[i - 1]'(by omega)) p.2[i] := fun h => hb ⟨g1, g2, g3, fun _ => h⟩
       rw [if_neg (by simp [gr, g2', g3']), if_pos (by omega), wi _ (by omega), show ((i : Int) - 1) = ((i - 1 : Nat) : Int) by omega, Zx (by omega), Zl9, Zb, Zb, Zb, if_pos (by simp [gr, g2', g3', hn]; omega)]
       rfl
      ·have g3' := (Zfv p.2[i].2.2.2).2 g3
       rw [if_pos (by simp [g3']), Zb, if_pos (by simp [g3'])]
       rfl
     ·have g2' := (Zfv p.2[i].2.2.1).2 g2
      rw [if_pos (by simp [g2']), Zb, if_pos (by simp [g2']), Zb, if_pos (by simp [g2'])]
      rfl
    ·have gr : p.2[i].1 < 0 ∨ (p.1.1.2.1.length : Int) ≤ p.2[i].1 := by omega
     rw [if_pos gr, Zb, if_pos (.inl gr), Zb, if_pos (.inl (.inl gr)), Zb, if_pos (.inl (.inl (.inl gr)))]
     rfl
   ·simp only [ZcU]
    rw [if_neg (by omega)]
    rfl
 ·have hn : ¬ Xp p := fun h => hp h.1
  rw [if_pos hp, if_pos hp, decide_eq_false hn]
  exact ⟨rfl, rfl⟩
end Go.Lc
end
section
namespace Go.Lc
open Go.RowKit
open Go.Av
set_option linter.unusedVariables false
set_option linter.unusedSimpArgs false
set_option maxRecDepth 100000
theorem Zso {α : Type} {o o' : Option α} (h : Le o o') (c : α → Bool) (hc : o.map c = some true) : Tot o' fun a => c a = true := by
 cases ho : o with
 | none => rw [ho] at hc; cases hc
 | some a =>
  rw [ho] at hc
  exact ⟨a, h a ho, Option.some.inj hc⟩
theorem ZpS (n : Int) : YR n = some ((zA 4).put 0 n) := rfl
theorem ZlH (n : Int) : Yw n = some ((zA 4).put 0 n) := rfl
theorem Zoc {n : Int} (h : 0 ≤ n ∧ n ≤ 18446744073709551615) : dig ((zA 4).put 0 n) := by
 intro i hi
 obtain ⟨w, rfl⟩ := Int.eq_ofNat_of_zero_le h.1
 by_cases e : i = 0
 ·subst e
  exact ⟨w, Arr.at_put _ (by omega) _, by omega⟩
 ·exact ⟨0, by rw [Arr.at_put_ne _ (fun h => e h.symm), ZoK]; rfl, by omega⟩
theorem scripts_tot : ∃ m e q, Xy 2 [(zA 4).put 0 4, (zA 4).put 0 16, (zA 4).put 0 4] = some (m, e) ∧ X0 1 m = some q ∧ q.length ≤ 1000 := by
 have h := scripts_val
 rw [Zm8] at h
 obtain ⟨y, h1, h2⟩ := Option.bind_eq_some_iff.1 h
 obtain ⟨q, h3, h4⟩ := Option.map_eq_some_iff.1 h2
 exact ⟨y.1, y.2, q, Zg8 _ _ _ h1, Zlg _ _ _ h3, of_decide_eq_true h4⟩
theorem single_tot : Tot (XD ((zA 4).put 0 16)) fun q => q.length ≤ 1000 :=
 (Zso (ZkH _) _ single_val).mono fun q h => of_decide_eq_true h
theorem ZpT {d : Tlightclientmill_Deck} (h : Zay d) (l : List (List Int)) (hl : l.length ≤ 3) (hs : ∀ s ∈ l, s.length ≤ 1000) : Tot (Zbw d l) fun r => ZdY r.1 ∧ r.1.1.2.1.length ≤ 3 ∧ Zay r.2 := by
 unfold Zbw
 refine (Zcr h (by omega) (by omega)).bind fun y1 h1 => ?_
 refine ZkP (I := fun (n : Nat) (s : Int × Int × Tlightclientmill_Deck × (List Tapi_Input) × (List Tapi_Coin)) => s.2.1 + (n : Int) = (l.length : Int) ∧ 0 ≤ s.2.1 ∧ Zay s.2.2.1 ∧ (s.2.2.2.1.length : Int) = s.2.1 ∧ (s.2.2.2.2.length : Int) = s.2.1 ∧ (∀ x ∈ s.2.2.2.1, x.2.2 = []) ∧ ∀ c ∈ s.2.2.2.2, c.2.1.2.length ≤ 1000) (n := l.length) ?_ ⟨by simp, by simp, h1.2, by simp, by simp, by simp, by simp⟩
 rintro n ⟨a, k, d1, ins, cs⟩ ⟨hk, hk0, hd, hl1, hl2, hw, hc⟩
 dsimp only at hk hk0 hd hl1 hl2 hw hc
 simp only [ZfX]
 refine ZgC (fun hlt => ?_) (fun hlt => ?_)
 ·refine Zn3 hk0 hlt fun x hx => ?_
  refine ZjS (by omega) ?_
  refine (Zcr hd (by omega) (by omega)).bind fun y2 h2 => ?_
  refine ZrL (by omega) (by omega) fun j _ hj => ZrM hj fun x2 _ => ?_
  refine ZjS (by omega) (Zbb ⟨n - 1, by omega, ?_, ?_, h2.2, ?_, ?_, ?_, ?_⟩)
  ·dsimp only
   rw [wi (k + 1) (by omega)]
   omega
  ·dsimp only
   rw [wi (k + 1) (by omega)]
   omega
  ·dsimp only
   rw [wi (k + 1) (by omega)]
   simp only [List.length_append, List.length_cons, List.length_nil]
   omega
  ·dsimp only
   rw [wi (k + 1) (by omega)]
   simp only [List.length_append, List.length_cons, List.length_nil]
   omega
  ·intro y hy
   rcases List.mem_append.1 hy with hy | hy
   ·exact hw y hy
   ·rw [List.mem_singleton.1 hy]
  ·intro y hy
   rcases List.mem_append.1 hy with hy | hy
   ·exact hc y hy
   ·rw [List.mem_singleton.1 hy]
    exact hs x hx
 ·refine Tot.out ?_
  unfold ZfW
  refine (Zcr hd (by omega) (by omega)).bind fun y2 h2 => ?_
  rw [ZjB, Zb, ZjB, Zb]
  refine (Zcr h2.2 (by omega) (by omega)).bind fun y3 h3 => ?_
  have hk2 : ∀ a b (c : List Tapi_Output) d', Zay d' → c.length ≤ 2 → (∀ o ∈ c, o.2.length ≤ 4) → Tot (X7 ins y1 cs a b c d') fun r => ZdY r.1 ∧ r.1.1.2.1.length ≤ 3 ∧ Zay r.2 := by
   intro a b c d' hd' hc1 hc2
   unfold X7
   exact Zbb ⟨⟨by dsimp only; omega, hw, by dsimp only; omega, fun o ho => Nat.le_trans (hc2 o ho) (by omega), by dsimp only; omega, fun c hc' => Nat.le_trans (hc c hc') (by omega)⟩, by dsimp only; omega, hd'⟩
  refine ZgC (fun _ => hk2 _ _ _ _ h3.2 (by simp) (by simp)) fun _ => ZgC (fun _ => (Zcr h3.2 (by omega) (by omega)).bind fun y4 h4 => hk2 _ _ _ _ h4.2 (by simp) (by simp)) fun _ => hk2 _ _ _ _ h3.2 (by simp) (by simp)
theorem Zio {d : Tlightclientmill_Deck} (h : Zay d) (p : Tapi_Plan) (hp : p.1.2.1.length ≤ 3) : Tot (Xz d p) fun r => ZbS r.1 ∧ r.1.length ≤ 9 ∧ Zay r.2 := by
 unfold Xz
 refine ZkP (I := fun (n : Nat) (s : Int × Tlightclientmill_Deck × List Tapi_Signed) => s.1 + (n : Int) = (p.1.2.1.length : Int) ∧ 0 ≤ s.1 ∧ Zay s.2.1 ∧ ZbS s.2.2 ∧ (s.2.2.length : Int) ≤ 3 * s.1) (n := p.1.2.1.length) ?_ ⟨by simp, by simp, h, fun s hs => (List.not_mem_nil hs).elim, by simp⟩
 rintro n ⟨i, d1, l⟩ ⟨hk, hk0, hd, hs, hl⟩
 dsimp only at hk hk0 hd hs hl
 simp only [ZeK]
 refine ZgC (fun hlt => ?_) (fun hlt => ?_)
 ·refine ZkP (I := fun (m : Nat) (s : Int × Tlightclientmill_Deck × List Tapi_Signed) => (s.1 = 4 ∧ m = 3 ∨ s.1 = 16 ∧ m = 2 ∨ s.1 = 64 ∧ m = 1 ∨ s.1 = 256 ∧ m = 0) ∧ Zay s.2.1 ∧ ZbS s.2.2 ∧ (s.2.2.length : Int) + m ≤ 3 * i + 3) (n := 3) ?_ ⟨.inl ⟨rfl, rfl⟩, hd, hs, by dsimp only; omega⟩
  rintro m ⟨k, d2, l2⟩ ⟨hk2, hd2, hs2, hl2⟩
  dsimp only at hk2 hd2 hs2 hl2
  simp only [ZeJ]
  refine ZgC (fun hlt2 => ?_) (fun hlt2 => ?_)
  ·refine (Zcr hd2 (by omega) (by omega)).bind fun y1 h1 => ?_
   have fin : ∀ (d3 : Tlightclientmill_Deck) (l3 : List Tapi_Signed), Zay d3 → ZbS l3 → (l3.length : Int) + m ≤ 3 * i + 4 → Tot (XZ k d3 l3) (Nx (fun (m : Nat) (s : Int × Tlightclientmill_Deck × List Tapi_Signed) => (s.1 = 4 ∧ m = 3 ∨ s.1 = 16 ∧ m = 2 ∨ s.1 = 64 ∧ m = 1 ∨ s.1 = 256 ∧ m = 0) ∧ Zay s.2.1 ∧ ZbS s.2.2 ∧ (s.2.2.length : Int) + m ≤ 3 * i + 3) (Nx (fun (n : Nat) (s : Int × Tlightclientmill_Deck × List Tapi_Signed) => s.1 + (n : Int) = (p.1.2.1.length : Int) ∧ 0 ≤ s.1 ∧ Zay s.2.1 ∧ ZbS s.2.2 ∧ (s.2.2.length : Int) ≤ 3 * s.1) (fun r : List Tapi_Signed × Tlightclientmill_Deck => ZbS r.1 ∧ r.1.length ≤ 9 ∧ Zay r.2) n) m) := by
    intro d3 l3 a1 a2 a3
    unfold XZ
    rw [wu _ (by omega)]
    exact Zbb ⟨m - 1, by omega, by dsimp only; omega, a1, a2, by dsimp only; omega⟩
   refine ZgC (fun _ => ?_) (fun _ => fin _ _ h1.2 hs2 (by omega))
   rw [ZlH, Zb]
   refine (Zcr h1.2 (by omega) (by omega)).bind fun y2 h2 => ?_
   rw [ZlH, Zb]
   refine (Zcr h2.2 (by omega) (by omega)).bind fun y3 h3 => ?_
   rw [ZlH, Zb, wu _ (by omega), wu _ (by omega)]
   refine ZjS (by omega) (fin _ _ h3.2 (fun s hs' => ?_) (by simp only [List.length_append, List.length_cons, List.length_nil]; omega))
   rcases List.mem_append.1 hs' with hs' | hs'
   ·exact hs2 s hs'
   ·rw [List.mem_singleton.1 hs']
    exact ⟨Zoc (by omega), Zoc (by omega)⟩
  ·refine Tot.out ?_
   unfold ZeI
   rw [wi _ (by omega)]
   exact Zbb ⟨n - 1, by omega, by dsimp only; omega, by dsimp only; omega, hd2, hs2, by dsimp only; omega⟩
 ·refine Tot.out ?_
  unfold ZeH
  exact Zbb ⟨hs, by dsimp only; omega, hd⟩
theorem ZqW {d : Tlightclientmill_Deck} (h : Zay d) : Tot (ZaY d) fun r => ZdY r.1.1 ∧ r.1.1.1.2.1.length ≤ 3 ∧ ZbS r.1.2 ∧ r.1.2.length ≤ 9 := by
 obtain ⟨m, e, q, h1, h2, h3⟩ := scripts_tot
 obtain ⟨s, h4, h5⟩ := single_tot
 unfold ZaY
 rw [ZpS, ZpS, Zb, Zb, Zb, h1, Zb, Zb, h4, Zb]
 dsimp only
 rw [h2, Zb, ZjB, Zb]
 refine (Zcr h (by omega) (by omega)).bind fun y1 g1 => ?_
 rw [wi _ (by omega)]
 refine ZjS ⟨by simp; omega, by omega⟩ ?_
 refine (ZpT g1.2 _ (by simp; omega) (fun x hx => ?_)).bind fun y2 g2 => ?_
 ·have := List.mem_of_mem_take hx
  simp only [List.mem_cons, List.not_mem_nil, or_false] at this
  rcases this with rfl | rfl | rfl
  ·exact h5
  ·exact h3
  ·simp
 ·refine (Zio g2.2.2 _ g2.2.1).bind fun y3 g3 => ?_
  exact Zbb ⟨g2.1, g2.2.1, g3.1, g3.2.1⟩
def ZhK (a b : Tapi_PartialTx) (r : Tapi_PartialTx × Int) : Prop :=
 (¬ (Xp a ∧ Xp b) ∧ r = (nilP, 6)) ∨ ((Xp a ∧ Xp b) ∧ ((a.1.2.2.1 ≠ b.1.2.2.1 ∨ Zem a.2 b.2) ∧ r = (nilP, 350) ∨ (a.1.2.2.1 = b.1.2.2.1 ∧ ¬ Zem a.2 b.2) ∧ ∃ z, ZfH a.2 b.2 z ∧ r = ((a.1, z), 0)))
theorem ZhK.ext {a b : Tapi_PartialTx} {r r' : Tapi_PartialTx × Int} (h : ZhK a b r) (h' : ZhK a b r') : r = r' := by
 rcases h with ⟨h1, rfl⟩ | ⟨h1, ⟨h2, rfl⟩ | ⟨h2, z, h3, rfl⟩⟩ <;> rcases h' with ⟨g1, rfl⟩ | ⟨g1, ⟨g2, rfl⟩ | ⟨g2, z', g3, rfl⟩⟩
 ·rfl
 ·exact absurd g1 h1
 ·exact absurd g1 h1
 ·exact absurd h1 g1
 ·rfl
 ·rcases h2 with h2 | h2
  ·exact absurd g2.1 h2
  ·exact absurd h2 g2.2
 ·exact absurd h1 g1
 ·rcases g2 with g2 | g2
  ·exact absurd h2.1 g2
  ·exact absurd g2 h2.2
 ·rw [h3.ext g3]
theorem ZnL {a b : Tapi_PartialTx} {f : Int} (hb : b.1 = pf a.1 f) (hp : ZdY a.1) (ha : ZbS a.2) (hb2 : ZbS b.2) (hla : a.2.length ≤ 400000) (hlb : b.2.length ≤ 400000) : Tot (Yc a b) (ZhK a b) := by
 classical
 have hf : b.1.2.2.1 = f := by rw [hb]; rfl
 unfold Yc
 rw [(Zeo a ha (by omega)).1, Zb]
 by_cases va : Xp a
 ·rw [if_neg (by simp [va]), (Zeo b hb2 (by omega)).1, Zb, Zb]
  by_cases vb : Xp b
  ·rw [if_neg (by simp [va, vb]), hb, ZqU hp, Zb]
   by_cases hfe : a.1.2.2.1 = f
   ·rw [if_neg (by simp [hfe])]
    obtain ⟨r, h1, h2⟩ := ZoS va.2.2 vb.2.2 hla hlb (ZoU hp)
    refine ⟨r, h1, .inr ⟨⟨va, vb⟩, ?_⟩⟩
    rcases h2 with ⟨hc, rfl⟩ | ⟨hc, z, hz, rfl⟩
    ·exact .inl ⟨.inr hc, rfl⟩
    ·exact .inr ⟨⟨hfe.trans hf.symm, hc⟩, z, hz, rfl⟩
   ·rw [if_pos (by simp [hfe])]
    exact Zbb (.inr ⟨⟨va, vb⟩, .inl ⟨.inl fun e => hfe (e.trans hf), rfl⟩⟩)
  ·rw [if_pos (by simp [vb])]
   exact Zbb (.inl ⟨fun h => vb h.2, rfl⟩)
 ·rw [if_pos (by simp [va]), Zb, if_pos (by simp [va])]
  exact Zbb (.inl ⟨fun h => va h.1, rfl⟩)
theorem nilB : ZdY nilP.1 := ⟨by simp [nilP], by simp [nilP], by simp [nilP], by simp [nilP], by simp [nilP], by simp [nilP]⟩
theorem Zmf {α : Type} [DecidableEq α] : ∀ (l m : List α), l.Nodup → (∀ x ∈ l, x ∈ m) → l.length ≤ m.length
 | [], m, _, _ => Nat.zero_le _
 | a :: l, m, hn, h => by
  have ha := h a (by simp)
  have h1 := Zmf l (m.erase a) (List.nodup_cons.1 hn).2 (fun x hx => (List.mem_erase_of_ne (fun (e : x = a) => (List.nodup_cons.1 hn).1 (by rw [← e]; exact hx))).2 (h x (by simp [hx])))
  rw [List.length_erase_of_mem ha] at h1
  have h2 := List.length_pos_of_mem ha
  simp only [List.length_cons]
  omega
theorem ZrT {z : List Tapi_Signed} : ∀ (y : List Tapi_Signed), Asc z → (∀ s ∈ z, s ∈ y) → z.length ≤ y.length := by
 intro y hz h
 have hn : z.Nodup := hz.imp fun hlt e => by subst e; exact ZhI _ hlt
 exact Zmf z y hn h
theorem Zhd {x y z : List Tapi_Signed} (h : ZfH x y z) : z.length ≤ x.length + y.length := by
 have := ZrT (x ++ y) h.1 fun s hs => List.mem_append.2 ((h.2 s).1 hs)
 simpa using this
theorem Zmg {x y z : List Tapi_Signed} (h : ZfH x y z) (hx : ZbS x) (hy : ZbS y) : ZbS z := fun s hs => ((h.2 s).1 hs).elim (hx s) (hy s)
theorem Zkl {P : Tapi_Plan} {x y z : List Tapi_Signed} (h : ZfH x y z) (hx : Xp (P, x)) (hy : Xp (P, y)) : Xp (P, z) :=
 ⟨hx.1, fun s hs => ((h.2 s).1 hs).elim (hx.2.1 s) (hy.2.1 s), h.1⟩
theorem ZoW {a b : Tapi_PartialTx} {r : Tapi_PartialTx × Int} (h : ZhK a b r) (hp : ZdY a.1) (hla : a.2.length ≤ 400000) (hlb : b.2.length ≤ 400000) : Xl r.1 r.1 = some true := by
 rcases h with ⟨h1, rfl⟩ | ⟨h1, ⟨h2, rfl⟩ | ⟨h2, z, h3, rfl⟩⟩
 ·exact ZfP nilB (by simp [nilP])
 ·exact ZfP nilB (by simp [nilP])
 ·exact ZfP hp (by have := Zhd h3; dsimp only; omega)
theorem ZoX {l : List Int} (h : l.length ≤ 9223372036854775807) : Zay (l, 0) := ⟨by simp, by simp, h⟩
theorem partialPasses (l m o : List Int) (hl : l.length ≤ 9223372036854775807) (hm : m.length ≤ 9223372036854775807) (ho : o.length ≤ 9223372036854775807) : YX l m o = some true := by
 classical
 unfold YX Zbu
 rw [sane35, Zb, if_neg (by simp), Zb]
 obtain ⟨y3, e3, p1, p2, p3, p4⟩ := ZqW (ZoX hl)
 obtain ⟨y5, e5, q1, q2, q3⟩ := Zio (ZoX hm) y3.1.1 p2
 obtain ⟨y7, e7, r1, r2, r3⟩ := Zio (ZoX ho) y3.1.1 p2
 rw [e3, Zb, Zb, e5, Zb, Zb, e7, Zb]
 obtain ⟨⟨P, x⟩, d3⟩ := y3
 obtain ⟨y, d5⟩ := y5
 obtain ⟨z, d7⟩ := y7
 dsimp only at p1 p2 p3 p4 q1 q2 r1 r2 ⊢
 have mk : ∀ s t : List Tapi_Signed, ZbS s → ZbS t → s.length ≤ 400000 → t.length ≤ 400000 → Tot (Yc (P, s) (P, t)) (ZhK (P, s) (P, t)) := fun s t h1 h2 h3 h4 => ZnL (f := P.2.2.1) rfl p1 h1 h2 h3 h4
 obtain ⟨y8, a1, a2⟩ := mk x y p3 q1 (by omega) (by omega)
 obtain ⟨y9, b1, b2⟩ := mk y x q1 p3 (by omega) (by omega)
 obtain ⟨y10, c1, c2⟩ := mk x x p3 p3 (by omega) (by omega)
 have h89 : y8 = y9 := by
  rcases a2 with ⟨h1, rfl⟩ | ⟨h1, ⟨h2, rfl⟩ | ⟨h2, u, h3, rfl⟩⟩ <;> rcases b2 with ⟨g1, rfl⟩ | ⟨g1, ⟨g2, rfl⟩ | ⟨g2, u', g3, rfl⟩⟩
  ·rfl
  ·exact absurd g1.symm h1
  ·exact absurd g1.symm h1
  ·exact absurd h1.symm g1
  ·rfl
  ·rcases h2 with h2 | h2
   ·exact absurd rfl h2
   ·exact absurd (Zex h2) g2.2
  ·exact absurd h1.symm g1
  ·rcases g2 with g2 | g2
   ·exact absurd rfl g2
   ·exact absurd (Zex g2) h2.2
  ·have : u = u' := h3.ext ⟨g3.1, fun s => (g3.2 s).trans or_comm⟩
   rw [this]
 subst h89
 have h10 : (decide (y10.2 = 0) = decide (Xp (P, x))) ∧ (y10.2 = 0 → y10.1 = (P, x)) := by
  rcases c2 with ⟨h1, rfl⟩ | ⟨h1, ⟨h2, rfl⟩ | ⟨h2, u, h3, rfl⟩⟩
  ·have : ¬ Xp (P, x) := fun h => h1 ⟨h, h⟩
   exact ⟨by simp [this], fun h => by simp at h⟩
  ·rcases h2 with h2 | h2
   ·exact absurd rfl h2
   ·exact absurd h2 (ZpQ h1.1.2.2)
  ·have : u = x := ZlF h3.1 h1.1.2.2 fun s => (h3.2 s).trans (or_self_iff)
   rw [this]
   exact ⟨by simp [h1.1], fun _ => rfl⟩
 rw [a1, Zb, b1, Zb, c1, Zb, if_neg (by simp), ZoW a2 p1 (by dsimp only; omega) (by dsimp only; omega), Zb, Zb, if_neg (by simp), (Zeo (P, x) p3 (by dsimp only; omega)).1, Zb, Zb, h10.1, if_neg (by simp)]
 have hs10 : ∀ k : Bool → Option Bool, ((if y10.2 = 0 then (Xl y10.1 (P, x)).bind fun y15 => some (!(y15)) else some false).bind fun z16 => some ((decide (Xp (P, x)) && z16))).bind k = k false := by
  intro k
  by_cases h0 : y10.2 = 0
  ·rw [if_pos h0, h10.2 h0, ZfP p1 (by dsimp only; omega)]
   simp
  ·rw [if_neg h0]
   simp
 rw [hs10, if_neg (by simp)]
 by_cases h8 : y8.2 = 0
 ·rw [if_neg (by simp [h8])]
  rcases a2 with ⟨h1, rfl⟩ | ⟨h1, ⟨h2, rfl⟩ | ⟨h2, u, h3, rfl⟩⟩
  ·simp at h8
  ·simp at h8
  ·have hu := Zhd h3
   have hus := Zmg h3 p3 q1
   dsimp only at hu hus h3 h2
   obtain ⟨y18, f1, f2⟩ := mk u z hus r1 (by omega) (by omega)
   obtain ⟨y19, g1, g2⟩ := mk y z q1 r1 (by omega) (by omega)
   dsimp only
   rw [f1, Zb, g1, Zb]
   rcases g2 with ⟨k1, rfl⟩ | ⟨k1, ⟨k2, rfl⟩ | ⟨k2, v, k3, rfl⟩⟩
   ·-- the third does not fit the second
    have h18 : y18.2 ≠ 0 := by
     rcases f2 with ⟨_, rfl⟩ | ⟨j1, ⟨_, rfl⟩ | ⟨_, _, _, rfl⟩⟩
     ·simp
     ·simp
     ·exact absurd ⟨h1.2, j1.2⟩ k1
    have hn : ∃ y20, Yc (P, x) nilP = some y20 := by
     unfold Yc
     rw [(Zeo (P, x) p3 (by dsimp only; omega)).1, (Zeo nilP (fun s hs => by simp [nilP] at hs) (by simp [nilP])).1, Zb, decide_eq_true h1.1]
     have : ¬ Xp nilP := fun h => by have := h.1; rw [show nilP.1 = ((0, [], [], 0), [], 0, 0) from rfl, planV_zero] at this; cases this
     rw [if_neg (by simp), Zb, Zb, if_pos (by simp [this])]
     exact ⟨_, rfl⟩
    obtain ⟨y20, e20⟩ := hn
    rw [e20, Zb, if_neg h18]
    simp
   ·have h18 : y18.2 ≠ 0 := by
     rcases f2 with ⟨_, rfl⟩ | ⟨j1, ⟨_, rfl⟩ | ⟨j2, _, _, rfl⟩⟩
     ·simp
     ·simp
     ·rcases k2 with k2 | ⟨s, hs, t, ht, e1, e2⟩
      ·exact absurd rfl k2
      ·exact absurd ⟨s, (h3.2 s).2 (.inr hs), t, ht, e1, e2⟩ j2.2
    have hn : ∃ y20, Yc (P, x) nilP = some y20 := by
     unfold Yc
     rw [(Zeo (P, x) p3 (by dsimp only; omega)).1, (Zeo nilP (fun s hs => by simp [nilP] at hs) (by simp [nilP])).1, Zb, decide_eq_true h1.1]
     have : ¬ Xp nilP := fun h => by have := h.1; rw [show nilP.1 = ((0, [], [], 0), [], 0, 0) from rfl, planV_zero] at this; cases this
     rw [if_neg (by simp), Zb, Zb, if_pos (by simp [this])]
     exact ⟨_, rfl⟩
    obtain ⟨y20, e20⟩ := hn
    rw [e20, Zb, if_neg h18]
    simp
   ·have hv := Zhd k3
    have hvs := Zmg k3 q1 r1
    dsimp only at hv hvs k3 k2
    obtain ⟨y20, j1, j2⟩ := mk x v p3 hvs (by omega) (by omega)
    rw [j1, Zb]
    have hvv : Xp (P, v) := Zkl k3 k1.1 k1.2
    have huv : Xp (P, u) := Zkl h3 h1.1 h1.2
    by_cases hc : Zem u z
    ·have h18 : y18.2 ≠ 0 := by
      rcases f2 with ⟨_, rfl⟩ | ⟨_, ⟨_, rfl⟩ | ⟨i2, _, _, rfl⟩⟩
      ·simp
      ·simp
      ·exact absurd hc i2.2
     have h20 : y20.2 ≠ 0 := by
      rcases j2 with ⟨_, rfl⟩ | ⟨_, ⟨_, rfl⟩ | ⟨i2, _, _, rfl⟩⟩
      ·simp
      ·simp
      ·obtain ⟨s, hs, t, ht, e1, e2⟩ := hc
       rcases (h3.2 s).1 hs with hs | hs
       ·exact absurd ⟨s, hs, t, (k3.2 t).2 (.inr ht), e1, e2⟩ i2.2
       ·exact absurd ⟨s, hs, t, ht, e1, e2⟩ k2.2
     rw [if_neg h18]
     simp [h20]
    ·have hcx : ¬ Zem x v := by
      rintro ⟨s, hs, t, ht, e1, e2⟩
      rcases (k3.2 t).1 ht with ht | ht
      ·exact h2.2 ⟨s, hs, t, ht, e1, e2⟩
      ·exact hc ⟨s, (h3.2 s).2 (.inl hs), t, ht, e1, e2⟩
     have h18 : ∃ s, ZfH u z s ∧ y18 = ((P, s), 0) := by
      rcases f2 with ⟨i1, _⟩ | ⟨_, ⟨i2, _⟩ | ⟨_, s, i3, i4⟩⟩
      ·exact absurd ⟨huv, k1.2⟩ i1
      ·rcases i2 with i2 | i2
       ·exact absurd rfl i2
       ·exact absurd i2 hc
      ·exact ⟨s, i3, i4⟩
     have h20 : ∃ s, ZfH x v s ∧ y20 = ((P, s), 0) := by
      rcases j2 with ⟨i1, _⟩ | ⟨_, ⟨i2, _⟩ | ⟨_, s, i3, i4⟩⟩
      ·exact absurd ⟨h1.1, hvv⟩ i1
      ·rcases i2 with i2 | i2
       ·exact absurd rfl i2
       ·exact absurd i2 hcx
      ·exact ⟨s, i3, i4⟩
     obtain ⟨s, i3, rfl⟩ := h18
     obtain ⟨t, i4, rfl⟩ := h20
     have hst : s = t := ZlF i3.1 i4.1 fun k => by
      rw [i3.2, i4.2, h3.2, k3.2, or_assoc]
     subst hst
     have hsl := Zhd i3
     rw [if_pos rfl, if_pos ⟨rfl, rfl⟩, ZfP p1 (by dsimp only; omega)]
     simp
 ·rw [if_pos h8]
end Go.Lc
end
