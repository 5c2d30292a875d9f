import Derived.Test.YtbjhgolpnjokbaaGreatLcG3
section
namespace Go.Lc
open Go.RowKit
open Go.Av
set_option linter.unusedVariables false
set_option linter.unusedSimpArgs false
set_option maxRecDepth 100000
structure Ze7 (p : Tapi_Plan) : Prop where
 inl : p.1.2.1.length ≤ 1000
 inw : ∀ x ∈ p.1.2.1, x.2.2 = []
 oul : p.1.2.2.1.length ≤ 1000
 ous : ∀ o ∈ p.1.2.2.1, o.2.length ≤ 1000000
 col : p.2.1.length ≤ 1000
 cos : ∀ c ∈ p.2.1, c.2.1.2.length ≤ 1000000
theorem citems_nil : YI [] = some [] := by
 unfold YI Yb
 rw [ZZ (by simp), Zf]
 refine Za4 ?_
 simp only [ZbL]
 rw [if_neg (by simp)]
 rfl
theorem Zjy {α : Type} {l : List α} {i : Nat} (h : i < l.length) {x : α} (hx : x = l[i]) : l.set i x = l := by
 subst hx
 exact List.set_getElem_self h
theorem ZpG {p : Tapi_Plan} (h : Ze7 p) : Xb p.1 = some p.1 := by
 have hi := h.inl
 have ho := h.oul
 have hf : Za9 p.1.2.2.1 p.1 p.1.2.1 = some p.1 := by
  unfold Za9
  refine Ym (step := XX p.1.2.2.1 p.1 p.1.2.1) (fun i => ((i : Int), p.1.2.2.1)) p.1.2.2.1.length (x := some p.1) (fun i hi => ?_) ?_
  ·simp only [XX]
   have := h.ous _ (List.getElem_mem hi)
   rw [if_pos (by omega), Za5 hi, Zhf hi, Xa, ZZ (by omega), Zf, Zjy hi rfl, Z0 hi (by omega)]
  ·simp only [XX]
   rw [if_neg (by omega)]
   rfl
 unfold Xb ZV ZT
 rw [ZZ (by omega), Zf, ZZ (by omega), Zf]
 refine Ym (step := XY p.1.2.1 p.1.2.2.1 p.1) (fun i => ((i : Int), p.1.2.1)) p.1.2.1.length (x := some p.1) (fun i hi => ?_) ?_
 ·simp only [XY]
  rw [if_pos (by omega), Za5 hi, Zhf hi, h.inw _ (List.getElem_mem hi), citems_nil, Zf, Zjy hi (by rw [← h.inw _ (List.getElem_mem hi)]), Z0 hi (by omega)]
 ·simp only [XY]
  rw [if_neg (by omega), hf]
theorem ZnI {p : Tapi_Plan} (h : Ze7 p) : YM p = some p := by
 have hc := h.col
 unfold YM ZX
 rw [ZpG h, Zf, ZZ (by omega), Zf]
 refine Ym (step := XA p.2.1 p.1 p) (fun i => ((i : Int), p.2.1)) p.2.1.length (x := some p) (fun i hi => ?_) ?_
 ·simp only [XA]
  have := h.cos _ (List.getElem_mem hi)
  rw [if_pos (by omega), Za5 hi, Zhf hi, Xa, ZZ (by omega), Zf, Zjy hi rfl, Z0 hi (by omega)]
 ·simp only [XA]
  rw [if_neg (by omega)]
  rfl
theorem Zho {step : Int → Option (Int ⊕ Bool)} (n : Nat) (hn : n ≤ 9223372036854775807) (h : ∀ i, i < n → step (i : Int) = some (.inl (IntKind.i64.wrap ((i : Int) + 1)))) (he : step (n : Int) = (some true).map Sum.inr) : Zt step 0 = some true :=
 Ym (step := step) (fun i => (i : Int)) n (x := some true) (fun i hi => by rw [h i hi, Z0 hi hn]) he
def pf (p : Tapi_Plan) (f : Int) : Tapi_Plan := (p.1, p.2.1, f, p.2.2.2)
theorem Zk8 (o : Tapi_Output) : Xg o o = some true := by
 unfold Xg ZaN
 simp
theorem ZpH {p : Tapi_Plan} (h : Ze7 p) : XV p.1 p.1 = some true := by
 have h1 := h.inl
 have h2 := h.oul
 have hk : Zcg p.1 p.1 = some true := by
  unfold Zcg
  refine Zho p.1.2.2.1.length (by omega) (fun i hi => ?_) ?_
  ·simp only [Zcf]
   rw [if_pos (by omega), Zy hi, Zy hi, Zk8, Zf, if_neg (by simp)]
  ·simp only [Zcf]
   rw [if_neg (by omega)]
   rfl
 unfold XV
 rw [if_neg (by simp)]
 refine Zho p.1.2.1.length (by omega) (fun i hi => ?_) ?_
 ·simp only [Zch]
  rw [if_pos (by omega), Zy hi, Zy hi, if_neg (by simp)]
  refine Zdy ?_
  simp only [ZdY]
  rw [h.inw _ (List.getElem_mem hi), if_neg (by simp)]
  rfl
 ·simp only [Zch]
  rw [if_neg (by omega), hk]
theorem ZoB {p : Tapi_Plan} (h : Ze7 p) (f : Int) : ZaR p (pf p f) = some (decide (p.2.2.1 = f)) := by
 have hc := h.col
 unfold ZaR pf
 rw [ZpH h, Zf]
 by_cases hf : p.2.2.1 = f
 ·rw [if_neg (by simp [hf]), decide_eq_true hf]
  refine Zho p.2.1.length (by omega) (fun i hi => ?_) ?_
  ·simp only [Zdj]
   rw [if_pos (by omega), Zy hi, Zy hi, XN, if_pos (by simp), Zk8]
   simp
  ·simp only [Zdj]
   rw [if_neg (by omega)]
   rfl
 ·rw [if_pos (by simp [hf])]
  simp [hf]
theorem Zk9 {p : Tapi_PartialTx} (h : Ze7 p.1) (hl : p.2.length ≤ 1000000) : X9 p p = some true := by
 have e := ZoB h p.1.2.2.1
 rw [show pf p.1 p.1.2.2.1 = p.1 from rfl] at e
 unfold X9
 rw [e, Zf, if_neg (by simp)]
 refine Zho p.2.length (by omega) (fun i hi => ?_) ?_
 ·simp only [Zdk]
  rw [if_pos (by omega), Zy hi, Zy hi, if_neg (by simp)]
 ·simp only [Zdk]
  rw [if_neg (by omega)]
  rfl
noncomputable def Zgk (p : Tapi_Plan) : Bool := (Y7 p).getD false
theorem Zme (p : Tapi_Plan) : Y7 p = some (Zgk p) ∧ Xm p = some (Zgk p) := by
 obtain ⟨b, h1, h2⟩ := ZnG p
 have : Zgk p = b := by unfold Zgk; rw [h1]; rfl
 rw [this]
 exact ⟨h1, h2⟩
def ZcM (l : List Tapi_Signed) : Prop := ∀ s ∈ l, dig s.2.2.1 ∧ dig s.2.2.2
def Zdz (p : Tapi_PartialTx) : Prop := Zgk p.1 = true ∧ (∀ s ∈ p.2, (0 ≤ s.1 ∧ s.1 < p.1.1.2.1.length) ∧ Za7 s.2.2.1 ∧ Za7 s.2.2.2) ∧ Asc p.2
theorem ZqA {l : List Tapi_Signed} (h : ∀ i (h : i + 1 < l.length), ltS (l[i]'(by omega)) (l[i + 1]'h)) : Asc l := by
 refine List.pairwise_iff_getElem.2 ?_
 intro i j hi hj hij
 induction j with
 | zero => omega
 | succ j ih =>
  by_cases e : i = j
  ·subst e; exact h i hj
  ·exact Zk4 (ih (by omega) (by omega)) (h j hj)
def Zkm (p : Tapi_PartialTx) (i : Nat) : Prop := ∃ h : i < p.2.length, ¬ ((0 ≤ p.2[i].1 ∧ p.2[i].1 < p.1.1.2.1.length) ∧ Za7 p.2[i].2.2.1 ∧ Za7 p.2[i].2.2.2 ∧ (0 < i → ltS (p.2[i - 1]'(by omega)) p.2[i]))
theorem Zla {p : Tapi_PartialTx} (hp : Zgk p.1 = true) : (¬ ∃ i, i < p.2.length ∧ Zkm p i) ↔ Zdz p := by
 constructor
 ·intro hn
  have hg : ∀ i (h : i < p.2.length), (0 ≤ p.2[i].1 ∧ p.2[i].1 < p.1.1.2.1.length) ∧ Za7 p.2[i].2.2.1 ∧ Za7 p.2[i].2.2.2 ∧ (0 < i → ltS (p.2[i - 1]'(by omega)) p.2[i]) := fun i h => Classical.byContradiction fun hc => hn ⟨i, h, h, hc⟩
  refine ⟨hp, fun s hs => ?_, ZqA fun i h => ?_⟩
  ·obtain ⟨i, hi, rfl⟩ := List.getElem_of_mem hs
   exact ⟨(hg i hi).1, (hg i hi).2.1, (hg i hi).2.2.1⟩
  ·exact (hg (i + 1) h).2.2.2 (by omega)
 ·rintro ⟨_, h1, h2⟩ ⟨i, _, h, hb⟩
  refine hb ⟨(h1 _ (List.getElem_mem h)).1, (h1 _ (List.getElem_mem h)).2.1, (h1 _ (List.getElem_mem h)).2.2, fun hi => ?_⟩
  exact List.pairwise_iff_getElem.1 h2 (i - 1) i (by omega) h (by omega)
theorem ord_ref : Lref05_Order = some ordA := Fref05_Order_le _ order_val
theorem ZeV (a : Arr 4) : (0 ≤ Zex a ordA) ↔ ¬ Za7 a := by unfold Za7; omega
open Classical in
theorem Zhp (p : Tapi_PartialTx) (hs : ZcM p.2) (hl : p.2.length ≤ 1000000) : Xf p = some (decide (Zdz p)) ∧ XO p = some (decide (Zdz p)) := by
 obtain ⟨hv, hv2⟩ := Zme p.1
 unfold Xf XO
 rw [hv, hv2, Zf, Zf]
 by_cases hp : Zgk p.1 = true
 ·rw [if_neg (by simp [hp]), if_neg (by simp [hp])]
  have hd : decide (Zdz p) = if ∃ i, i < p.2.length ∧ Zkm p i then false else true := by
   by_cases h : ∃ i, i < p.2.length ∧ Zkm p i
   ·rw [if_pos h, decide_eq_false]
    intro hc
    exact (Zla hp).2 hc h
   ·rw [if_neg h, decide_eq_true ((Zla hp).1 h)]
  have hq : ∀ o : Option Bool, o = (if ∃ i, i < p.2.length ∧ Zkm p i then some false else some true) → o = some (decide (Zdz p)) := by
   intro o ho
   rw [ho, hd]
   split <;> rfl
  constructor
  ·refine hq _ ?_
   refine ZbN (fun i => (i : Int)) p.2.length (Zkm p) (some false) (some true) (fun i hi _ hb => ?_) (fun i hi _ hb => ?_) (fun _ => ?_) rfl
   ·have hg : (0 ≤ p.2[i].1 ∧ p.2[i].1 < p.1.1.2.1.length) ∧ Za7 p.2[i].2.2.1 ∧ Za7 p.2[i].2.2.2 ∧ (0 < i → ltS (p.2[i - 1]'(by omega)) p.2[i]) := Classical.byContradiction fun hc => hb ⟨hi, hc⟩
    obtain ⟨g1, g2, g3, g4⟩ := hg
    obtain ⟨d1, d2⟩ := hs _ (List.getElem_mem hi)
    obtain ⟨r, e1, e2⟩ := Zmd d1 d2
    simp only [ZaE]
    rw [if_pos (by omega), Zy hi, if_neg (by omega), Zmc, Zf, e1, Zf, if_neg (by rw [e2]; simp [g2, g3])]
    by_cases h0 : 0 < i
    ·obtain ⟨c, c1, c2, c3⟩ := Zj2 (p.2[i - 1]'(by omega)) p.2[i]
     have := c2.2 (g4 h0)
     rw [if_pos (by omega), wi _ (by omega), show ((i : Int) - 1) = ((i - 1 : Nat) : Int) by omega, Zy (by omega), c1, Zf, Zf, if_neg (by simp; omega), Z0 hi (by omega)]
    ·rw [if_neg (by omega), Zf, if_neg (by omega), Z0 hi (by omega)]
   ·obtain ⟨_, hb⟩ := hb
    obtain ⟨d1, d2⟩ := hs _ (List.getElem_mem hi)
    obtain ⟨r, e1, e2⟩ := Zmd d1 d2
    simp only [ZaE]
    rw [if_pos (by omega), Zy hi]
    by_cases g1 : 0 ≤ p.2[i].1 ∧ p.2[i].1 < p.1.1.2.1.length
    ·rw [if_neg (by omega), Zmc, Zf, e1, Zf]
     by_cases g2 : Za7 p.2[i].2.2.1 ∧ Za7 p.2[i].2.2.2
     ·rw [if_neg (by rw [e2]; simp [g2])]
      have h0 : 0 < i := Classical.byContradiction fun h0 => hb ⟨g1, g2.1, g2.2, fun h => absurd h h0⟩
      have hn : ¬ ltS (p.2[i - 1]'(by omega)) p.2[i] := fun h => hb ⟨g1, g2.1, g2.2, fun _ => h⟩
      obtain ⟨c, c1, c2, c3⟩ := Zj2 (p.2[i - 1]'(by omega)) p.2[i]
      have : ¬ c < 0 := fun h => hn (c2.1 h)
      rw [if_pos (by omega), wi _ (by omega), show ((i : Int) - 1) = ((i - 1 : Nat) : Int) by omega, Zy (by omega), c1, Zf, Zf, if_pos (by simp; omega)]
      rfl
     ·rw [if_pos (by rw [e2]; exact g2)]
      rfl
    ·rw [if_pos (by omega)]
     rfl
   ·simp only [ZaE]
    rw [if_neg (by omega)]
    rfl
  ·refine hq _ ?_
   refine ZbN (fun i => (i : Int)) p.2.length (Zkm p) (some false) (some true) (fun i hi _ hb => ?_) (fun i hi _ hb => ?_) (fun _ => ?_) rfl
   ·have hg : (0 ≤ p.2[i].1 ∧ p.2[i].1 < p.1.1.2.1.length) ∧ Za7 p.2[i].2.2.1 ∧ Za7 p.2[i].2.2.2 ∧ (0 < i → ltS (p.2[i - 1]'(by omega)) p.2[i]) := Classical.byContradiction fun hc => hb ⟨hi, hc⟩
    obtain ⟨g1, g2, g3, g4⟩ := hg
    have g2' := mt (ZeV p.2[i].2.2.1).1 (not_not_intro g2)
    have g3' := mt (ZeV p.2[i].2.2.2).1 (not_not_intro g3)
    have gr : ¬ (p.2[i].1 < 0 ∨ (p.1.1.2.1.length : Int) ≤ p.2[i].1) := by omega
    simp only [ZbE]
    rw [if_pos (by omega), Zy hi, if_neg gr, ord_ref, Zf, ZgR, Zf, Zf, if_neg (by simp [gr, g2']), Zf, ZgR, Zf, Zf, if_neg (by simp [gr, g2', g3'])]
    by_cases h0 : 0 < i
    ·rw [if_pos (by omega), wi _ (by omega), show ((i : Int) - 1) = ((i - 1 : Nat) : Int) by omega, Zy (by omega), Zk5, Zf, Zf, Zf, if_neg (by simp [gr, g2', g3', g4 h0]), Z0 hi (by omega)]
    ·rw [if_neg (by omega), Zf, Zf, if_neg (by simp [gr, g2', g3']), Z0 hi (by omega)]
   ·obtain ⟨_, hb⟩ := hb
    simp only [ZbE]
    rw [if_pos (by omega), Zy hi]
    by_cases g1 : 0 ≤ p.2[i].1 ∧ p.2[i].1 < p.1.1.2.1.length
    ·have gr : ¬ (p.2[i].1 < 0 ∨ (p.1.1.2.1.length : Int) ≤ p.2[i].1) := by omega
     rw [if_neg gr, ord_ref, Zf, ZgR, Zf, Zf]
     by_cases g2 : Za7 p.2[i].2.2.1
     ·have g2' := mt (ZeV p.2[i].2.2.1).1 (not_not_intro g2)
      rw [if_neg (by simp [gr, g2']), Zf, ZgR, Zf, Zf]
      by_cases g3 : Za7 p.2[i].2.2.2
      ·have g3' := mt (ZeV p.2[i].2.2.2).1 (not_not_intro g3)
       have h0 : 0 < i := Classical.byContradiction fun h0 => hb ⟨g1, g2, g3, fun h => absurd h h0⟩
       have hn : ¬ ltS (p.2[i - 1]'(by omega)) p.2[i] := fun h => hb ⟨g1, g2, g3, fun _ => h⟩
       rw [if_neg (by simp [gr, g2', g3']), if_pos (by omega), wi _ (by omega), show ((i : Int) - 1) = ((i - 1 : Nat) : Int) by omega, Zy (by omega), Zk5, Zf, Zf, Zf, if_pos (by simp [gr, g2', g3', hn]; omega)]
       rfl
      ·have g3' := (ZeV p.2[i].2.2.2).2 g3
       rw [if_pos (by simp [g3']), Zf, if_pos (by simp [g3'])]
       rfl
     ·have g2' := (ZeV p.2[i].2.2.1).2 g2
      rw [if_pos (by simp [g2']), Zf, if_pos (by simp [g2']), Zf, if_pos (by simp [g2'])]
      rfl
    ·have gr : p.2[i].1 < 0 ∨ (p.1.1.2.1.length : Int) ≤ p.2[i].1 := by omega
     rw [if_pos gr, Zf, if_pos (.inl gr), Zf, if_pos (.inl (.inl gr)), Zf, if_pos (.inl (.inl (.inl gr)))]
     rfl
   ·simp only [ZbE]
    rw [if_neg (by omega)]
    rfl
 ·have hn : ¬ Zdz p := fun h => hp h.1
  rw [if_pos hp, if_pos hp, decide_eq_false hn]
  exact ⟨rfl, rfl⟩
end Go.Lc
end
section
namespace Go.Lc
open Go.RowKit
open Go.Av
set_option linter.unusedVariables false
set_option linter.unusedSimpArgs false
set_option maxRecDepth 100000
theorem Zrj {α : Type} {o o' : Option α} (h : Le o o') (c : α → Bool) (hc : o.map c = some true) : Tot o' fun a => c a = true := by
 cases ho : o with
 | none => rw [ho] at hc; cases hc
 | some a =>
  rw [ho] at hc
  exact ⟨a, h a ho, Option.some.inj hc⟩
theorem Zj3 (n : Int) : Yy n = some ((zA 4).put 0 n) := rfl
theorem Zkn (n : Int) : Yp n = some ((zA 4).put 0 n) := rfl
theorem Zko {n : Int} (h : 0 ≤ n ∧ n ≤ 18446744073709551615) : dig ((zA 4).put 0 n) := by
 intro i hi
 obtain ⟨w, rfl⟩ := Int.eq_ofNat_of_zero_le h.1
 by_cases e : i = 0
 ·subst e
  exact ⟨w, Arr.at_put _ (by omega) _, by omega⟩
 ·exact ⟨0, by rw [Arr.at_put_ne _ (fun h => e h.symm), Zlm]; rfl, by omega⟩
theorem scripts_tot : ∃ m e q, Xo 2 [(zA 4).put 0 4, (zA 4).put 0 16, (zA 4).put 0 4] = some (m, e) ∧ XL 1 m = some q ∧ q.length ≤ 1000 := by
 have h := scripts_val
 rw [ZlZ] at h
 obtain ⟨y, h1, h2⟩ := Option.bind_eq_some_iff.1 h
 obtain ⟨q, h3, h4⟩ := Option.map_eq_some_iff.1 h2
 exact ⟨y.1, y.2, q, Zgh _ _ _ h1, ZjY _ _ _ h3, of_decide_eq_true h4⟩
theorem single_tot : Tot (Xt ((zA 4).put 0 16)) fun q => q.length ≤ 1000 :=
 (Zrj (Zju _) _ single_val).mono fun q h => of_decide_eq_true h
theorem ZoC {d : Tlightclientmill_Deck} (h : Zan d) (l : List (List Int)) (hl : l.length ≤ 3) (hs : ∀ s ∈ l, s.length ≤ 1000) : Tot (Zbo d l) fun r => Ze7 r.1 ∧ r.1.1.2.1.length ≤ 3 ∧ Zan r.2 := by
 unfold Zbo
 refine (Zcj h (by omega) (by omega)).bind fun y1 h1 => ?_
 refine Zjv (I := fun (n : Nat) (s : Int × Int × Tlightclientmill_Deck × (List Tapi_Input) × (List Tapi_Coin)) => s.2.1 + (n : Int) = (l.length : Int) ∧ 0 ≤ s.2.1 ∧ Zan s.2.2.1 ∧ (s.2.2.2.1.length : Int) = s.2.1 ∧ (s.2.2.2.2.length : Int) = s.2.1 ∧ (∀ x ∈ s.2.2.2.1, x.2.2 = []) ∧ ∀ c ∈ s.2.2.2.2, c.2.1.2.length ≤ 1000) (n := l.length) ?_ ⟨by simp, by simp, h1.2, by simp, by simp, by simp, by simp⟩
 rintro n ⟨a, k, d1, ins, cs⟩ ⟨hk, hk0, hd, hl1, hl2, hw, hc⟩
 dsimp only at hk hk0 hd hl1 hl2 hw hc
 simp only [Zfl]
 refine ZaW (fun hlt => ?_) (fun hlt => ?_)
 ·refine ZmR hk0 hlt fun x hx => ?_
  refine ZfL (by omega) ?_
  refine (Zcj hd (by omega) (by omega)).bind fun y2 h2 => ?_
  refine ZmS (by omega) (by omega) fun j _ hj => ZfM hj fun x2 _ => ?_
  refine ZfL (by omega) (ZbM ⟨n - 1, by omega, ?_, ?_, h2.2, ?_, ?_, ?_, ?_⟩)
  ·dsimp only
   rw [wi (k + 1) (by omega)]
   omega
  ·dsimp only
   rw [wi (k + 1) (by omega)]
   omega
  ·dsimp only
   rw [wi (k + 1) (by omega)]
   simp only [List.length_append, List.length_cons, List.length_nil]
   omega
  ·dsimp only
   rw [wi (k + 1) (by omega)]
   simp only [List.length_append, List.length_cons, List.length_nil]
   omega
  ·intro y hy
   rcases List.mem_append.1 hy with hy | hy
   ·exact hw y hy
   ·rw [List.mem_singleton.1 hy]
  ·intro y hy
   rcases List.mem_append.1 hy with hy | hy
   ·exact hc y hy
   ·rw [List.mem_singleton.1 hy]
    exact hs x hx
 ·refine Tot.out ?_
  unfold Zfk
  refine (Zcj hd (by omega) (by omega)).bind fun y2 h2 => ?_
  rw [Ziw, Zf, Ziw, Zf]
  refine (Zcj h2.2 (by omega) (by omega)).bind fun y3 h3 => ?_
  have hk2 : ∀ a b (c : List Tapi_Output) d', Zan d' → c.length ≤ 2 → (∀ o ∈ c, o.2.length ≤ 4) → Tot (XS ins y1 cs a b c d') fun r => Ze7 r.1 ∧ r.1.1.2.1.length ≤ 3 ∧ Zan r.2 := by
   intro a b c d' hd' hc1 hc2
   unfold XS
   exact ZbM ⟨⟨by dsimp only; omega, hw, by dsimp only; omega, fun o ho => Nat.le_trans (hc2 o ho) (by omega), by dsimp only; omega, fun c hc' => Nat.le_trans (hc c hc') (by omega)⟩, by dsimp only; omega, hd'⟩
  refine ZaW (fun _ => hk2 _ _ _ _ h3.2 (by simp) (by simp)) fun _ => ZaW (fun _ => (Zcj h3.2 (by omega) (by omega)).bind fun y4 h4 => hk2 _ _ _ _ h4.2 (by simp) (by simp)) fun _ => hk2 _ _ _ _ h3.2 (by simp) (by simp)
theorem ZnJ {d : Tlightclientmill_Deck} (h : Zan d) (p : Tapi_Plan) (hp : p.1.2.1.length ≤ 3) : Tot (Zah d p) fun r => ZcM r.1 ∧ r.1.length ≤ 9 ∧ Zan r.2 := by
 unfold Zah
 refine Zjv (I := fun (n : Nat) (s : Int × Tlightclientmill_Deck × List Tapi_Signed) => s.1 + (n : Int) = (p.1.2.1.length : Int) ∧ 0 ≤ s.1 ∧ Zan s.2.1 ∧ ZcM s.2.2 ∧ (s.2.2.length : Int) ≤ 3 * s.1) (n := p.1.2.1.length) ?_ ⟨by simp, by simp, h, fun s hs => (List.not_mem_nil hs).elim, by simp⟩
 rintro n ⟨i, d1, l⟩ ⟨hk, hk0, hd, hs, hl⟩
 dsimp only at hk hk0 hd hs hl
 simp only [Zeo]
 refine ZaW (fun hlt => ?_) (fun hlt => ?_)
 ·refine Zjv (I := fun (m : Nat) (s : Int × Tlightclientmill_Deck × List Tapi_Signed) => (s.1 = 4 ∧ m = 3 ∨ s.1 = 16 ∧ m = 2 ∨ s.1 = 64 ∧ m = 1 ∨ s.1 = 256 ∧ m = 0) ∧ Zan s.2.1 ∧ ZcM s.2.2 ∧ (s.2.2.length : Int) + m ≤ 3 * i + 3) (n := 3) ?_ ⟨.inl ⟨rfl, rfl⟩, hd, hs, by dsimp only; omega⟩
  rintro m ⟨k, d2, l2⟩ ⟨hk2, hd2, hs2, hl2⟩
  dsimp only at hk2 hd2 hs2 hl2
  simp only [Zen]
  refine ZaW (fun hlt2 => ?_) (fun hlt2 => ?_)
  ·refine (Zcj hd2 (by omega) (by omega)).bind fun y1 h1 => ?_
   have fin : ∀ (d3 : Tlightclientmill_Deck) (l3 : List Tapi_Signed), Zan d3 → ZcM l3 → (l3.length : Int) + m ≤ 3 * i + 4 → Tot (XK k d3 l3) (Nx (fun (m : Nat) (s : Int × Tlightclientmill_Deck × List Tapi_Signed) => (s.1 = 4 ∧ m = 3 ∨ s.1 = 16 ∧ m = 2 ∨ s.1 = 64 ∧ m = 1 ∨ s.1 = 256 ∧ m = 0) ∧ Zan s.2.1 ∧ ZcM s.2.2 ∧ (s.2.2.length : Int) + m ≤ 3 * i + 3) (Nx (fun (n : Nat) (s : Int × Tlightclientmill_Deck × List Tapi_Signed) => s.1 + (n : Int) = (p.1.2.1.length : Int) ∧ 0 ≤ s.1 ∧ Zan s.2.1 ∧ ZcM s.2.2 ∧ (s.2.2.length : Int) ≤ 3 * s.1) (fun r : List Tapi_Signed × Tlightclientmill_Deck => ZcM r.1 ∧ r.1.length ≤ 9 ∧ Zan r.2) n) m) := by
    intro d3 l3 a1 a2 a3
    unfold XK
    rw [wu _ (by omega)]
    exact ZbM ⟨m - 1, by omega, by dsimp only; omega, a1, a2, by dsimp only; omega⟩
   refine ZaW (fun _ => ?_) (fun _ => fin _ _ h1.2 hs2 (by omega))
   rw [Zkn, Zf]
   refine (Zcj h1.2 (by omega) (by omega)).bind fun y2 h2 => ?_
   rw [Zkn, Zf]
   refine (Zcj h2.2 (by omega) (by omega)).bind fun y3 h3 => ?_
   rw [Zkn, Zf, wu _ (by omega), wu _ (by omega)]
   refine ZfL (by omega) (fin _ _ h3.2 (fun s hs' => ?_) (by simp only [List.length_append, List.length_cons, List.length_nil]; omega))
   rcases List.mem_append.1 hs' with hs' | hs'
   ·exact hs2 s hs'
   ·rw [List.mem_singleton.1 hs']
    exact ⟨Zko (by omega), Zko (by omega)⟩
  ·refine Tot.out ?_
   unfold Zem
   rw [wi _ (by omega)]
   exact ZbM ⟨n - 1, by omega, by dsimp only; omega, by dsimp only; omega, hd2, hs2, by dsimp only; omega⟩
 ·refine Tot.out ?_
  unfold Zel
  exact ZbM ⟨hs, by dsimp only; omega, hd⟩
theorem ZpI {d : Tlightclientmill_Deck} (h : Zan d) : Tot (ZaQ d) fun r => Ze7 r.1.1 ∧ r.1.1.1.2.1.length ≤ 3 ∧ ZcM r.1.2 ∧ r.1.2.length ≤ 9 := by
 obtain ⟨m, e, q, h1, h2, h3⟩ := scripts_tot
 obtain ⟨s, h4, h5⟩ := single_tot
 unfold ZaQ
 rw [Zj3, Zj3, Zf, Zf, Zf, h1, Zf, Zf, h4, Zf]
 dsimp only
 rw [h2, Zf, Ziw, Zf]
 refine (Zcj h (by omega) (by omega)).bind fun y1 g1 => ?_
 rw [wi _ (by omega)]
 refine ZfL ⟨by simp; omega, by omega⟩ ?_
 refine (ZoC g1.2 _ (by simp; omega) (fun x hx => ?_)).bind fun y2 g2 => ?_
 ·have := List.mem_of_mem_take hx
  simp only [List.mem_cons, List.not_mem_nil, or_false] at this
  rcases this with rfl | rfl | rfl
  ·exact h5
  ·exact h3
  ·simp
 ·refine (ZnJ g2.2.2 _ g2.2.1).bind fun y3 g3 => ?_
  exact ZbM ⟨g2.1, g2.2.1, g3.1, g3.2.1⟩
theorem not_zero : Tot (Zci (zA 4)) fun a => dig a := by
 refine ⟨_, rfl, fun i hi => ?_⟩
 have e : ∀ j, j < 4 → bits .xor .u64 18446744073709551615 ((zA 4).at j) = ((18446744073709551615 : Nat) : Int) := by
  intro j hj
  rw [Zlm]
  decide +kernel
 simp only [e 0 (by omega), e 1 (by omega), e 2 (by omega), e 3 (by omega)]
 refine ⟨18446744073709551615, ?_, by omega⟩
 match i, hi with
 | 0, _ => rfl
 | 1, _ => rfl
 | 2, _ => rfl
 | 3, _ => rfl
theorem ZoD (p : Tapi_PartialTx) (w a : Int) (hs : ZcM p.2) (hl : p.2.length ≤ 9) : Tot (Zak p w a) fun r => (∃ f, r.1 = pf p.1 f) ∧ ZcM r.2 ∧ r.2.length ≤ 10 := by
 have hk : ∀ l : List Tapi_Signed, ZcM l → l.length ≤ 10 → Tot (Yr w p l) fun r => (∃ f, r.1 = pf p.1 f) ∧ ZcM r.2 ∧ r.2.length ≤ 10 := by
  intro l h1 h2
  unfold Yr Zav
  rw [ZgQ _ (by omega) (by omega), Zf]
  exact ZaW (fun _ => ZbM ⟨⟨_, rfl⟩, h1, h2⟩) fun _ => ZbM ⟨⟨_, rfl⟩, h1, h2⟩
 have hset : ∀ (j : Nat) (x : Tapi_Signed), dig x.2.2.1 ∧ dig x.2.2.2 → Tot (Yr w p (p.2.set j x)) fun r => (∃ f, r.1 = pf p.1 f) ∧ ZcM r.2 ∧ r.2.length ≤ 10 := by
  intro j x hx
  refine hk _ (fun s hs' => ?_) (by simp; omega)
  rcases List.mem_or_eq_of_mem_set hs' with h | rfl
  ·exact hs s h
  ·exact hx
 unfold Zak
 refine ZfL (by omega) ?_
 refine ZaW (fun h0 => ?_) fun _ => hk _ hs (by omega)
 rw [ZgQ _ (by omega) (by omega), Zf]
 have hm := Zkj a (n := (p.2.length : Int)) (by omega)
 refine ZmS hm.1 hm.2 fun j _ hj => ?_
 rw [ZgQ _ (by omega) (by omega), Zf]
 have g : ∀ x, p.2[j]? = some x → dig x.2.2.1 ∧ dig x.2.2.2 := fun x hx => hs x (List.mem_of_getElem? hx)
 refine ZaW (fun _ => ?_) fun _ => ZaW (fun _ => ?_) fun _ => ZaW (fun _ => ?_) fun _ => ZaW (fun _ => ?_) fun _ => ZaW (fun _ => ?_) fun _ => hk _ hs (by omega)
 ·rw [ZgQ _ (by omega) (by omega), Zf]
  exact ZfM hj fun x hx => hset _ _ (g x hx)
 ·refine not_zero.bind fun y hy => ?_
  exact ZfM hj fun x hx => hset _ _ ⟨hy, (g x hx).2⟩
 ·rw [ZgQ _ (by omega) (by omega), Zf, Zj3, Zf]
  exact ZfM hj fun x hx => hset _ _ (g x hx)
 ·refine ZfM hj fun x hx => ?_
  refine ZfL (by omega) (hk _ (fun s hs' => ?_) (by simp; omega))
  rcases List.mem_append.1 hs' with h | h
  ·exact hs s h
  ·rw [List.mem_singleton.1 h]; exact g x hx
 ·rw [Zj3, Zf]
  exact ZfM hj fun x hx => hset _ _ ⟨(g x hx).1, Zko (by omega)⟩
def Zmf (a b : Tapi_PartialTx) (r : Tapi_PartialTx × Int) : Prop :=
 (¬ (Zdz a ∧ Zdz b) ∧ r = (nilP, 6)) ∨ ((Zdz a ∧ Zdz b) ∧ ((a.1.2.2.1 ≠ b.1.2.2.1 ∨ Conf a.2 b.2) ∧ r = (nilP, 350) ∨ (a.1.2.2.1 = b.1.2.2.1 ∧ ¬ Conf a.2 b.2) ∧ ∃ z, Zlo a.2 b.2 z ∧ r = ((a.1, z), 0)))
theorem Zmf.ext {a b : Tapi_PartialTx} {r r' : Tapi_PartialTx × Int} (h : Zmf a b r) (h' : Zmf a b r') : r = r' := by
 rcases h with ⟨h1, rfl⟩ | ⟨h1, ⟨h2, rfl⟩ | ⟨h2, z, h3, rfl⟩⟩ <;> rcases h' with ⟨g1, rfl⟩ | ⟨g1, ⟨g2, rfl⟩ | ⟨g2, z', g3, rfl⟩⟩
 ·rfl
 ·exact absurd g1 h1
 ·exact absurd g1 h1
 ·exact absurd h1 g1
 ·rfl
 ·rcases h2 with h2 | h2
  ·exact absurd g2.1 h2
  ·exact absurd h2 g2.2
 ·exact absurd h1 g1
 ·rcases g2 with g2 | g2
  ·exact absurd h2.1 g2
  ·exact absurd g2 h2.2
 ·rw [h3.ext g3]
theorem nilB : Ze7 nilP.1 := ⟨by simp [nilP], by simp [nilP], by simp [nilP], by simp [nilP], by simp [nilP], by simp [nilP]⟩
theorem ZsH {l : List Int} (h : l.length ≤ 9223372036854775807) : Zan (l, 0) := ⟨by simp, by simp, h⟩
theorem partialValid (l : List Int) (w a : Int) (hl : l.length ≤ 9223372036854775807) : YT l w a = some true := by
 unfold YT ZcQ
 rw [sane35, Zf, if_neg (by simp), Zf]
 obtain ⟨y3, e3, p1, p2, p3, p4⟩ := ZpI (ZsH hl)
 obtain ⟨y7, e7, ⟨f7, s1⟩, s2, s3⟩ := ZoD y3.1 w a p3 p4
 have hB : Ze7 y7.1 := by rw [s1]; exact ⟨p1.inl, p1.inw, p1.oul, p1.ous, p1.col, p1.cos⟩
 have e1 : (y7.1.1, y7.1.2.1, y7.1.2.2.1, y7.1.2.2.2) = y7.1 := rfl
 rw [e3, Zf, e7, Zf, e1]
 have hnew : ∃ r, Zal y7.1 = some r ∧ ZbA y7.1 = some r ∧ X9 r.1 r.1 = some true := by
  obtain ⟨v1, v2⟩ := Zme y7.1
  unfold Zal ZbA
  rw [v1, v2, Zf, Zf]
  by_cases hv : Zgk y7.1 = true
  ·rw [if_neg (by simp [hv]), if_neg (by simp [hv]), ZnI hB, Zf]
   exact ⟨_, rfl, rfl, Zk9 hB (by simp)⟩
  ·rw [if_pos hv, if_pos hv]
   exact ⟨_, rfl, rfl, Zk9 nilB (by simp [nilP])⟩
 obtain ⟨r, n1, n2, n3⟩ := hnew
 rw [n1, Zf, n2, Zf, (Zhp y3.1 p3 (by omega)).1, Zf, (Zhp y3.1 p3 (by omega)).2, Zf, if_pos (by simp), (Zhp (y7.1, y7.2) s2 (by dsimp only; omega)).1, Zf, (Zhp (y7.1, y7.2) s2 (by dsimp only; omega)).2, Zf, Zf, if_pos (by simp), n3, Zf, Zf]
 simp
end Go.Lc
end
