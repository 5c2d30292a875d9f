import Derived.Test.YtmjbklblgpnagaaAvP3
import Derived.WalkSpells
import Derived.MapKept
import Derived.Laws.StructEq
import Derived.Lib.BitFns
section
namespace Go.Av
open Go.RowKit
set_option linter.unusedVariables false
section
variable {tt : TT} {T : Tab} {G : Glob} {kp : Keep} {st st0 st1 : ASt} {a b c d : Code} {Q Q' : AE → ASt → Prop}
def Xf (tt : TT) (T : Tab) (G : Glob) (kp : Keep) (c : Code) (st : ASt) (Q : AE → ASt → Prop) : Prop := ∃ n0 e s, (∀ n, n0 ≤ n → Xb tt T G kp n c st = some (e, s)) ∧ Q e s
theorem ZdP (h : Xf tt T G kp a st (ZdH (fun s => Xf tt T G kp b s Q) Q)) : Xf tt T G kp (.seq a b) st Q := by
 obtain ⟨n0, e, s, h1, h2⟩ := h
 cases e with
 | normal =>
  obtain ⟨n1, e', s', h3, h4⟩ := h2
  exact ⟨max n0 n1, e', s', fun n hn => by simp [Xb, h1 n (by omega), h3 n (by omega)], h4⟩
 | exit id => exact ⟨n0, _, _, fun n hn => by simp [Xb, h1 n hn], h2⟩
 | ret => exact ⟨n0, _, _, fun n hn => by simp [Xb, h1 n hn], h2⟩
theorem ZA {id : Nat} {ops : Array Oper} (hc : c = .region id ops false) (h : Zex tt T G ops.toList ops.toList st = some st1) (hq : Q .normal st1) (hj : (kp (id + 1000000)).ks.isEmpty = true := by rfl) : Xf tt T G kp c st Q := ⟨0, _, _, fun n _ => by subst hc; simp [Xb, Ys, hj, h], hq⟩
theorem Zct {id : Nat} {ops : Array Oper} {fs : List Foot} (hc : c = .region id ops true) (h : Zey tt T G ops.toList ops.toList st = some (st1, fs)) (hd : Zda ops.toList fs = true) (hq : Q .normal st1) (hj : (kp (id + 1000000)).ks.isEmpty = true := by rfl) : Xf tt T G kp c st Q := ⟨0, _, _, fun n _ => by subst hc; simp [Xb, Ys, hj, h, hd], hq⟩
theorem Za {id : Nat} {ops : Array Oper} (hc : c = .region id ops false) (h : Zex tt T G ops.toList ops.toList st = some st1) (hq : Xf tt T G kp b st1 Q) (hj : (kp (id + 1000000)).ks.isEmpty = true := by rfl) : Xf tt T G kp (.seq c b) st Q := ZdP (ZA hc h hq hj)
theorem Zt {id : Nat} {ops : Array Oper} {fs : List Foot} (hc : c = .region id ops true) (h : Zey tt T G ops.toList ops.toList st = some (st1, fs)) (hd : Zda ops.toList fs = true) (hq : Xf tt T G kp b st1 Q) (hj : (kp (id + 1000000)).ks.isEmpty = true := by rfl) : Xf tt T G kp (.seq c b) st Q := ZdP (Zct hc h hd hq hj)
theorem XA (h : Q .normal st) : Xf tt T G kp .skip st Q := ⟨0, _, _, fun _ _ => rfl, h⟩
theorem Zx (h : Q .ret st) : Xf tt T G kp .ret st Q := ⟨0, _, _, fun _ _ => rfl, h⟩
theorem ZmZ {id : Nat} (h : Q (.exit id) st) : Xf tt T G kp (.exit id) st Q := ⟨0, _, _, fun _ _ => rfl, h⟩
theorem Zh (h : Xf tt T G kp b st Q) : Xf tt T G kp (.seq .skip b) st Q := ZdP (XA h)
theorem Zl (h : Q .ret st) : Xf tt T G kp (.seq .ret b) st Q := ZdP (Zx h)
theorem Zo {id : Nat} (h : Q (.exit id) st) : Xf tt T G kp (.seq (.exit id) b) st Q := ZdP (ZmZ h)
theorem Zf (h : Xf tt T G kp (.seq a (.seq b d)) st Q) : Xf tt T G kp (.seq (.seq a b) d) st Q := by
 obtain ⟨n0, e, s, h1, h2⟩ := h
 refine ⟨n0, e, s, fun n hn => ?_, h2⟩
 rw [← h1 n hn]
 simp only [Xb]
 cases Xb tt T G kp n a st with
 | none => rfl
 | some x => obtain ⟨e, s⟩ := x; cases e <;> rfl
theorem Yo {x : Operand} (h : rd G st.get x = some (bV true)) (h1 : Xf tt T G kp a st Q) : Xf tt T G kp (.cond x a b) st Q := by
 unfold bV at h
 obtain ⟨n0, e, s, h3, h4⟩ := h1; exact ⟨n0, e, s, fun n hn => by simp only [Xb, h, h3 n hn, if_true], h4⟩
theorem YI {x : Operand} (h : rd G st.get x = some (bV false)) (h1 : Xf tt T G kp b st Q) : Xf tt T G kp (.cond x a b) st Q := by
 unfold bV at h
 obtain ⟨n0, e, s, h3, h4⟩ := h1; exact ⟨n0, e, s, fun n hn => by simp only [Xb, h, h3 n hn, Bool.false_eq_true, if_false], h4⟩
theorem Ze {x : Operand} (h : rd G st.get x = some (bV true)) (h1 : Xf tt T G kp (.seq a d) st Q) : Xf tt T G kp (.seq (.cond x a b) d) st Q := by
 unfold bV at h
 obtain ⟨n0, e, s, h3, h4⟩ := h1; exact ⟨n0, e, s, fun n hn => by rw [← h3 n hn]; simp only [Xb, h, if_true], h4⟩
theorem Zg {x : Operand} (h : rd G st.get x = some (bV false)) (h1 : Xf tt T G kp (.seq b d) st Q) : Xf tt T G kp (.seq (.cond x a b) d) st Q := by
 unfold bV at h
 obtain ⟨n0, e, s, h3, h4⟩ := h1; exact ⟨n0, e, s, fun n hn => by rw [← h3 n hn]; simp only [Xb, h, Bool.false_eq_true, if_false], h4⟩
theorem YT {id : Nat} (h : Xf tt T G kp c st (Ze9 id Q)) : Xf tt T G kp (.block id c) st Q := by
 obtain ⟨n0, e, s, h1, h2⟩ := h
 cases e with
 | normal => exact ⟨n0, .normal, s, fun n hn => by simp [Xb, h1 n hn], h2⟩
 | ret => exact ⟨n0, .ret, s, fun n hn => by simp [Xb, h1 n hn], h2⟩
 | exit id' =>
  simp only [Ze9] at h2
  split at h2
  ·rename_i hid; exact ⟨n0, .normal, s, fun n hn => by simp [Xb, h1 n hn, hid], h2⟩
  ·rename_i hid; exact ⟨n0, .exit id', s, fun n hn => by simp [Xb, h1 n hn, hid], h2⟩
theorem Zk {id : Nat} (h : Xf tt T G kp c st (Ze9 id (ZdH (fun s => Xf tt T G kp d s Q) Q))) : Xf tt T G kp (.seq (.block id c) d) st Q := ZdP (YT h)
theorem Zm0 {n : Nat} {st st' : ASt} : ∀ {c : Code} {key : Nat}, firstJ c = some key → (kp key).ks.isEmpty = false → ZbG (kp key) st = ZbG (kp key) st' → Xb tt T G kp n c st = Xb tt T G kp n c st' := by
 intro c
 induction c with
 | region id ops dr =>
  intro key hc ha hf
  simp only [firstJ, Option.some.injEq] at hc
  subst hc
  simp only [Xb, Ys, ha, Bool.false_eq_true, if_false, hf]
 | seq a b iha ihb =>
  intro key hc ha hf
  simp only [firstJ] at hc
  simp only [Xb, iha hc ha hf]
 | block id c ih =>
  intro key hc ha hf
  simp only [firstJ] at hc
  simp only [Xb, ih hc ha hf]
 | loop c ih =>
  intro key hc ha hf
  simp only [firstJ, Option.some.injEq] at hc
  subst hc
  cases n with
  | zero => rfl
  | succ n => simp only [Xb, Zez, hf]
 | _ => intro key hc; simp [firstJ] at hc
theorem ZK {key : Nat} {kq : Kp} {H : ASt} (hc : firstJ c = some key) (hk : kp key = kq) (ha : kq.ks.isEmpty = false) (hf : ZbG kq st = ZbG kq H) (h : Xf tt T G kp c H Q) : Xf tt T G kp c st Q := by
 subst hk
 obtain ⟨n0, e, s, h1, h2⟩ := h
 exact ⟨n0, e, s, fun n hn => by rw [Zm0 hc ha hf]; exact h1 n hn, h2⟩
theorem Za2 {σ ρ : Type} {l rhs : Option ρ} (_ : l = rhs) (H : σ → ASt) (f : σ → Option ρ) (hJ : ∀ s, f s = rhs → Xf tt T G kp b (H s) Q) (hm : (∀ s, f s = rhs → Xf tt T G kp b (H s) Q) → Xf tt T G kp (.seq a b) st Q) : Xf tt T G kp (.seq a b) st Q := hm hJ
theorem ZbR {σ ρ : Type} {l rhs : Option ρ} (_ : l = rhs) (X : AE) (H : σ → ASt) (f : σ → Option ρ) (hJ : ∀ s, f s = rhs → Q X (H s)) (hm : (∀ s, f s = rhs → Q X (H s)) → Xf tt T G kp c st Q) : Xf tt T G kp c st Q := hm hJ
theorem ZbH {id : Nat} {ops : Array Oper} {kq : Kp} (hc : c = .region id ops false) (hk : kp (id + 1000000) = kq) (hf : Ys kq st = st0) (h : Zex tt T G ops.toList ops.toList st0 = some st1) (hq : Q .normal st1) : Xf tt T G kp c st Q := ⟨0, _, _, fun n _ => by subst hc; simp [Xb, hk, hf, h], hq⟩
theorem Zit {id : Nat} {ops : Array Oper} {kq : Kp} {fs : List Foot} (hc : c = .region id ops true) (hk : kp (id + 1000000) = kq) (hf : Ys kq st = st0) (h : Zey tt T G ops.toList ops.toList st0 = some (st1, fs)) (hd : Zda ops.toList fs = true) (hq : Q .normal st1) : Xf tt T G kp c st Q := ⟨0, _, _, fun n _ => by subst hc; simp [Xb, hk, hf, h, hd], hq⟩
theorem Y6 {id : Nat} {ops : Array Oper} {kq : Kp} (hc : c = .region id ops false) (hk : kp (id + 1000000) = kq) (hf : Ys kq st = st0) (h : Zex tt T G ops.toList ops.toList st0 = some st1) (hq : Xf tt T G kp b st1 Q) : Xf tt T G kp (.seq c b) st Q := ZdP (ZbH hc hk hf h hq)
theorem ZaT {id : Nat} {ops : Array Oper} {kq : Kp} {fs : List Foot} (hc : c = .region id ops true) (hk : kp (id + 1000000) = kq) (hf : Ys kq st = st0) (h : Zey tt T G ops.toList ops.toList st0 = some (st1, fs)) (hd : Zda ops.toList fs = true) (hq : Xf tt T G kp b st1 Q) : Xf tt T G kp (.seq c b) st Q := ZdP (Zit hc hk hf h hd hq)
def Zbd {σ ρ : Type} (step : σ → Option (σ ⊕ ρ)) : Nat → σ → Option ρ
 | 0, _ => none
 | m + 1, s => match step s with | some (.inl s') => Zbd step m s' | some (.inr r) => some r | none => none
theorem Zfe {σ ρ : Type} {step : σ → Option (σ ⊕ ρ)} : ∀ {m : Nat} {s : σ} {r : ρ}, Zbd step m s = some r → ∀ k, Zbd step (m + k) s = some r
 | 0, _, _, h => by simp [Zbd] at h
 | m + 1, s, r, h => by
  intro k
  rw [show m + 1 + k = (m + k) + 1 by omega]
  simp only [Zbd] at h ⊢
  split at h
  ·rename_i s' hs
   exact Zfe h k
  ·exact h
  ·simp at h
noncomputable def Zr {σ ρ : Type} (step : σ → Option (σ ⊕ ρ)) (s : σ) : Option ρ := by
 classical
 exact if h : ∃ m r, Zbd step m s = some r then some (Classical.choose (Classical.choose_spec h)) else none
theorem ZbI {σ ρ : Type} {step : σ → Option (σ ⊕ ρ)} {s : σ} {r : ρ} : Zr step s = some r ↔ ∃ m, Zbd step m s = some r := by
 unfold Zr
 constructor
 ·intro h
  split at h
  ·rename_i hx
   have := Classical.choose_spec (Classical.choose_spec hx)
   injection h with h
   rw [h] at this
   exact ⟨_, this⟩
  ·simp at h
 ·rintro ⟨m, h⟩
  have hx : ∃ m r, Zbd step m s = some r := ⟨m, r, h⟩
  rw [dif_pos hx]
  have h2 := Classical.choose_spec (Classical.choose_spec hx)
  have h3 := Zfe h (Classical.choose hx)
  have h4 := Zfe h2 m
  rw [Nat.add_comm, h3] at h4
  exact h4.symm
theorem Zff {σ ρ : Type} (step : σ → Option (σ ⊕ ρ)) (s : σ) : Zr step s = (match step s with | some (.inl s') => Zr step s' | some (.inr r) => some r | none => none) := by
 apply Option.ext
 intro r
 rw [ZbI]
 constructor
 ·rintro ⟨m, h⟩
  cases m with
  | zero => simp [Zbd] at h
  | succ m =>
   simp only [Zbd] at h
   split at h
   ·exact ZbI.2 ⟨m, h⟩
   ·exact h
   ·simp at h
 ·intro h
  split at h
  ·rename_i s' hs
   obtain ⟨m, hm⟩ := ZbI.1 h
   exact ⟨m + 1, by simp [Zbd, hs, hm]⟩
  ·rename_i r' hs
   exact ⟨1, by simpa [Zbd, hs] using h⟩
  ·simp at h
def QL {σ ρ : Type} (kq : Kp) (H : σ → ASt) (Q : AE → ASt → Prop) (r : ρ) : σ ⊕ ρ → AE → ASt → Prop
 | .inl s' => ZdH (fun st => ZbG kq st = H s') fun _ _ => False
 | .inr r' => ZdH (fun _ => False) fun e st => r' = r → Q e st
theorem ZnE {σ ρ : Type} {kq : Kp} {step : σ → Option (σ ⊕ ρ)} {H : σ → ASt} {r : ρ}
  (hb : ∀ s x, step s = some x → Xf tt T G kp c (H s) (QL kq H Q r x)) :
  ∀ (m : Nat) (s : σ) (st : ASt), Zbd step m s = some r → ZbG kq st = H s → ∃ n0 e s', (∀ M, n0 ≤ M → ∀ n, n0 ≤ n → Zez kq (Xb tt T G kp n c) M st = some (e, s')) ∧ Q e s' := by
 intro m
 induction m with
 | zero => intro s st h; simp [Zbd] at h
 | succ m ih =>
  intro s st h hf
  simp only [Zbd] at h
  split at h
  ·rename_i s' hs
   obtain ⟨n1, e, st', h1, h2⟩ := hb s _ hs
   cases e with
   | normal =>
    obtain ⟨n2, e2, st2, h3, h4⟩ := ih s' st' h h2
    refine ⟨max n1 n2 + 1, e2, st2, fun M hM n hn => ?_, h4⟩
    obtain ⟨M, rfl⟩ : ∃ M', M = M' + 1 := ⟨M - 1, by omega⟩
    simp only [Zez, hf, h1 n (by omega)]
    exact h3 M (by omega) n (by omega)
   | exit id => exact h2.elim
   | ret => exact h2.elim
  ·rename_i r' hs
   injection h with h
   subst h
   obtain ⟨n1, e, st', h1, h2⟩ := hb s _ hs
   cases e with
   | normal => exact h2.elim
   | exit id =>
    refine ⟨n1 + 1, _, _, fun M hM n hn => ?_, h2 rfl⟩
    obtain ⟨M, rfl⟩ : ∃ M', M = M' + 1 := ⟨M - 1, by omega⟩
    simp only [Zez, hf, h1 n (by omega)]
   | ret =>
    refine ⟨n1 + 1, _, _, fun M hM n hn => ?_, h2 rfl⟩
    obtain ⟨M, rfl⟩ : ∃ M', M = M' + 1 := ⟨M - 1, by omega⟩
    simp only [Zez, hf, h1 n (by omega)]
  ·simp at h
theorem ZU {σ ρ : Type} {kq : Kp} {step : σ → Option (σ ⊕ ρ)} {H : σ → ASt} (hk : kp (firstId c) = kq) {s : σ} {r : ρ}
  (hr : Zr step s = some r) (hf : ZbG kq st = H s)
  (hb : ∀ s x, step s = some x → Xf tt T G kp c (H s) (QL kq H Q r x)) : Xf tt T G kp (.loop c) st Q := by
 obtain ⟨m, hm⟩ := ZbI.1 hr
 obtain ⟨n0, e, s', h1, h2⟩ := ZnE hb m s st hm hf
 refine ⟨n0, e, s', fun n hn => ?_, h2⟩
 simp only [Xb]
 rw [hk]
 exact h1 n hn n hn
theorem fnE {fn : Func} {args : List PV} {w : Bool} {r : PV × List (List Cell)} (hb : fn.body = some c) (hc : ZgC args = true) (h : Xf tt T G kp c ⟨(ioIn 0 0 args).1 ++ List.replicate (fn.ntmps - args.length) .skip, Zfp args⟩ (Zn tt w fn args r)) : ∃ kp fl n, ZI tt T G kp fl n fn args = some r := by
 obtain ⟨n0, e, s, h1, h2⟩ := h
 exact ⟨kp, w, n0, ZmU hb hc ⟨e, s, h1 n0 (Nat.le_refl _), h2⟩⟩
end
end Go.Av
end
section
namespace Go.Av
open Go.RowKit
set_option linter.unusedVariables false
def idx {α : Type} (l : List α) (i : Int) : Option α := if 0 ≤ i then l[i.toNat]? else none
theorem Y8 {α : Type} {l : List α} {i : Int} {x : α} (h : idx l i = some x) : 0 ≤ i ∧ l[i.toNat]? = some x := by
 unfold idx at h
 split at h
 ·exact ⟨by assumption, h⟩
 ·simp at h
def inA (n : Nat) (i : Int) : Option Nat := if 0 ≤ i ∧ i < n then some i.toNat else none
theorem Zm {n : Nat} {i : Int} {j : Nat} (h : inA n i = some j) : 0 ≤ i ∧ i.toNat = j ∧ j < n := by
 unfold inA at h
 split at h
 ·simp at h
  omega
 ·simp at h
def chk (p : Prop) [Decidable p] : Option Unit := if p then some () else none
theorem Zp {p : Prop} [Decidable p] {u : Unit} (h : chk p = some u) : p := by
 unfold chk at h
 split at h
 ·assumption
 ·simp at h
theorem Zjp {p : Prop} [Decidable p] (h : p) : chk p = some () := by simp [chk, h]
@[simp] theorem Zpn {k : IntKind} {l m : List Int} : Zi k l = Zi k m ↔ l = m := ⟨ZkJ, fun h => by rw [h]⟩
@[simp] theorem Zp1 {n : Nat} {k : IntKind} {a b : Arr n} : arC k a = arC k b ↔ a = b := ⟨Zha, fun h => by rw [h]⟩
@[simp] theorem Zp2 {n : Nat} {k : IntKind} {a b : Arr n} {s t : List Cell} : arC k a ++ s = arC k b ++ t ↔ a = b ∧ s = t := by
 constructor
 ·intro h
  obtain ⟨h1, h2⟩ := List.append_inj h (by simp)
  exact ⟨Zha h1, h2⟩
 ·rintro ⟨rfl, rfl⟩; rfl
theorem Zjq {α : Type} {f : α → List Cell} (hf : ∀ a b, f a = f b → a = b) {l m : List α} : l.map f = m.map f ↔ l = m := List.map_inj_right hf
@[simp] theorem ZpH {n : Nat} {k : IntKind} {l m : List (Arr n)} : List.map (arC k) l = List.map (arC k) m ↔ l = m := Zjq fun _ _ h => Zha h
@[simp] theorem Zoy {n : Nat} {k : IntKind} {l : List (Arr n)} : ∀ x ∈ List.map (arC k) l, x.length = n := by simp
@[simp] theorem ZkN {k : IntKind} : Zi k [] = [] := rfl
@[simp] theorem Zj7 {k : IntKind} {x : Int} {l : List Int} : Zi k (x :: l) = [.v (.int k x)] :: Zi k l := rfl
@[simp] theorem ZkO {k : IntKind} {l m : List Int} : Zi k (l ++ m) = Zi k l ++ Zi k m := intsR_append.symm
@[simp] theorem Zgu {k : IntKind} {l : List Int} {n : Nat} : Zi k (l.take n) = (Zi k l).take n := (Zfb n).symm
@[simp] theorem Zl8 {k : IntKind} {l : List Int} {n : Nat} : Zi k (l.drop n) = (Zi k l).drop n := (ZgO n).symm
@[simp] theorem Zd {k : IntKind} {l : List Int} {n : Nat} {x : Int} : Zi k (l.set n x) = (Zi k l).set n [.v (.int k x)] := (Zb n x).symm
@[simp] theorem ZkP {k : IntKind} {n : Nat} {x : Int} : Zi k (List.replicate n x) = List.replicate n [.v (.int k x)] := by simp [Zi]
@[simp] theorem ZoN {k : IntKind} {m : List Int} : (∀ l, l ∈ Zi k m → l.length = 1) = True := eq_true fun l h => intsR_all l h
@[simp] theorem isSl_v (x : Value) : Cell.isSl (.v x) = false := rfl
@[simp] theorem Zp3 (els : List (List Cell)) : Cell.isSl (.slice .no els) = true := rfl
@[simp] theorem ZpI (els : List (List Cell)) : Cell.isSl (.slice .nil els) = false := rfl
@[simp] theorem Zp4 (a b c d e : Nat) : Cell.isSl (.ms a b c d e) = false := rfl
@[simp] theorem Zp5 (a b c d e : Nat) : Cell.isSl (.fv a b c d e) = false := rfl
@[simp] theorem ZpJ (e : Nat) (els : List (List Cell)) : Cell.isSl (.own e els) = false := rfl
@[simp] theorem Zpo {k : IntKind} {l : List Int} : (Zi k l).any (fun l => l.any Cell.isSl) = false := by simp [Zi, List.any_map]
@[simp] theorem Zp6 {n : Nat} {k : IntKind} {a : Arr n} : (arC k a).any Cell.isSl = false := by simp [arC, ints]
@[simp] theorem ZpK {n : Nat} {k : IntKind} {l : List (Arr n)} : (List.map (arC k) l).any (fun l => l.any Cell.isSl) = false := by simp [List.any_map]
@[simp] theorem Zpp {bx : Boxes} {ns : List Nat} {n : Nat} {l : List Cell} : Xj bx ns (List.replicate n l) = List.replicate n (Zb9 bx ns l) := by simp [Xj]
@[simp] theorem Zpq {bx : Boxes} {ns : List Nat} {els : List (List Cell)} {n : Nat} {l : List Cell} : Xj bx ns (els.set n l) = (Xj bx ns els).set n (Zb9 bx ns l) := by simp [Xj, List.map_set]
@[simp] theorem ZoO {bx : Boxes} {ns : List Nat} {els : List (List Cell)} {n : Nat} : Xj bx ns (els.take n) = (Xj bx ns els).take n := by simp [Xj]
@[simp] theorem ZoP {bx : Boxes} {ns : List Nat} {els : List (List Cell)} {n : Nat} : Xj bx ns (els.drop n) = (Xj bx ns els).drop n := by simp [Xj]
@[simp] theorem ZoQ {n : Nat} {l : List Cell} (h : YX l = true) : Z2 (List.replicate n l) = true := by
 simp only [Z2, List.all_eq_true, List.mem_replicate]
 rintro x ⟨_, rfl⟩
 exact h
theorem ZgQ {a b : List (List Cell)} (h : ∀ x ∈ a, x ∈ b) (hb : Z2 b = true) : Z2 a = true := by
 simp only [Z2, List.all_eq_true] at *
 exact fun x hx => hb x (h x hx)
@[simp] theorem Zoz {n : Nat} {els : List (List Cell)} (h : Z2 els = true) : Z2 (els.take n) = true := ZgQ (fun _ => List.mem_of_mem_take) h
@[simp] theorem ZoA {n : Nat} {els : List (List Cell)} (h : Z2 els = true) : Z2 (els.drop n) = true := ZgQ (fun _ => List.mem_of_mem_drop) h
@[simp] theorem ZoR {n : Nat} {els : List (List Cell)} {l : List Cell} (h : Z2 els = true) (hl : YX l = true) : Z2 (els.set n l) = true := by
 simp only [Z2, List.all_eq_true] at *
 intro x hx
 rcases List.mem_or_eq_of_mem_set hx with h1 | rfl
 ·exact h x h1
 ·exact hl
@[simp] theorem ZoS {k : IntKind} {l : List Int} {i : Nat} (h : i < (Zi k l).length) : (Zi k l)[i] = [.v (.int k (l[i]'(by simpa using h)))] := by simp [Zi]
theorem Zq {α : Type} {l : List α} {i : Nat} {x : α} (h : l[i]? = some x) : ∀ h' : i < l.length, l[i] = x := fun h' => by
 rw [List.getElem?_eq_getElem h'] at h
 injection h
@[simp] theorem bits_u64 : IntKind.u64.bits = 64 := rfl
@[simp] theorem bits_u32 : IntKind.u32.bits = 32 := rfl
@[simp] theorem bits_u16 : IntKind.u16.bits = 16 := rfl
@[simp] theorem bits_u8 : IntKind.u8.bits = 8 := rfl
@[simp] theorem bits_i64 : IntKind.i64.bits = 64 := rfl
@[simp] theorem bits_i32 : IntKind.i32.bits = 32 := rfl
@[simp] theorem maxLen_eq : maxLen = 9223372036854775807 := rfl
@[simp] theorem Zpr {n m : Nat} {k : IntKind} {a : Arr n} (h : m ≤ n) : XZ 1 m (arC k a) = (Zi k a.l).take m := by
 unfold arC
 rw [chunk_ints (by rw [a.hl]; exact h), Zfb]
@[simp] theorem Zm1 {n m o : Nat} {k : IntKind} {a : Arr n} (h : o + m ≤ n) : XZ 1 m ((arC k a).drop o) = ((Zi k a.l).drop o).take m := by
 unfold arC
 rw [ZkI, chunk_ints (by have := a.hl; simp; omega), ZgO, Zfb]
@[simp] theorem Zp7 {n : Nat} {a : Arr n} : a.l.length = n := a.hl
@[simp] theorem ZoB {n : Nat} {k : IntKind} {a b : Arr n} {s t : List Cell} : cellsEq (arC k a ++ s) (arC k b ++ t) = (match cellsEq s t with | some c => some (decide (a = b) && c) | none => none) := by
 have h : ∀ {l m : List Int}, l.length = m.length → cellsEq (ints k l ++ s) (ints k m ++ t) = (match cellsEq s t with | some c => some ((l == m) && c) | none => none) := by
  intro l
  induction l with
  | nil => intro m h; cases m with
   | nil => simp [ints]; cases cellsEq s t <;> rfl
   | cons y m => simp at h
  | cons x l ih => intro m h; cases m with
   | nil => simp at h
   | cons y m =>
    have := ih (m := m) (by simpa using h)
    simp only [ints] at this
    simp only [ints, List.map_cons, List.cons_append, cellsEq, cellEq, if_true, this]
    cases cellsEq s t with
    | none => rfl
    | some c => simp [List.cons_beq_cons, Bool.and_assoc]
 unfold arC
 rw [h (by rw [a.hl, b.hl])]
 have e : (a.l == b.l) = decide (a = b) := by
  cases a; cases b
  rw [Bool.eq_iff_iff]
  simp
 rw [e]
@[simp] theorem ZoC {n : Nat} {k k' : IntKind} (a b : Arr n) (cs ds : List Cell) : Z6 (arC k a ++ cs) 0 (arC k' b ++ ds) = arC k' b ++ Z6 cs 0 ds := by
 unfold Z6
 simp only [List.take_zero, List.nil_append, Nat.zero_add, List.length_append, ZmY, List.drop_append, List.append_assoc]
 rw [List.drop_of_length_le (by simp)]
 simp
theorem Zgg {α : Type} {f : α → List Cell} {s : Nat} (h : ∀ a, (f a).length = s) (m : List α) : (∀ l, l ∈ List.map f m → l.length = s) = True := eq_true fun l hl => by
 obtain ⟨a, _, rfl⟩ := List.mem_map.1 hl
 exact h a
@[simp↓] theorem Zp8 {n : Nat} {k : IntKind} (m : List (Arr n)) : (∀ l, l ∈ List.map (arC k) m → l.length = n) = True := Zgg (by simp) m
def frS (b : Bool) (bx : Boxes) : List Nat → List (Nat × Box)
 | [] => []
 | x :: l => if b then XI bx (x :: l) else []
@[simp] theorem Zp9 (b : Bool) (bx : Boxes) : frS b bx [] = [] := rfl
@[simp] theorem Zps (bx : Boxes) (l : List Nat) : frS false bx l = [] := by cases l <;> rfl
@[simp] theorem ZpL (bx : Boxes) (l : List Nat) : frS true bx l = XI bx l := by cases l <;> rfl
theorem ZkQ (T : Tab) (d : Option Nat) (f : FuncId) (ps : List PV) (bx : Boxes) : ZdK T d f ps bx = (match ZhT T f, ZdA bx (T.own (d.getD 90000)) ps with
 | some F, some qs =>
  match F qs with
  | some (r, outs) =>
   match ZbO bx (ioPs (T.own (d.getD 90000)) ps) outs, Zd0 bx (d.getD 90000) r with
   | some (bo, br), some (p, bn) =>
    if nodupB (ioPs (T.own (d.getD 90000)) ps ++ (br ++ bn).map (·.1)) && (XJ bx (T.own (d.getD 90000)) ps).all (fun x => !(ioPs (T.own (d.getD 90000)) ps ++ Zbb bx (T.own (d.getD 90000)) ps ++ (br ++ bn).map (·.1)).contains x) && (bn.isEmpty || d.isSome) && Zba ((br ++ bn).map (·.1)) && nodupB (ioPs (T.own (d.getD 90000)) ps ++ Zbb bx (T.own (d.getD 90000)) ps) && (!(hasSlR r || outs.any hasSlL) || Zba (XJ bx (T.own (d.getD 90000)) ps)) then
     some ⟨Za9 d p, frS (hasSlR r || outs.any hasSlL) bx (XJ bx (T.own (d.getD 90000)) ps) ++ bo ++ (br ++ bn ++ ZdB bx ((Zbb bx (T.own (d.getD 90000)) ps).filter fun x => !((br ++ bn).map (·.1)).contains x)), XJ bx (T.own (d.getD 90000)) ps ++ ioPs (T.own (d.getD 90000)) ps ++ Zbb bx (T.own (d.getD 90000)) ps ++ (br ++ bn).map (·.1)⟩
    else none
   | _, _ => none
  | none => none
 | _, _ => none) := by
 have h : ∀ (b : Bool) l, (if b then XI bx l else []) = frS b bx l := by
  intro b l
  cases b <;> simp [-XI]
 unfold ZdK
 simp only [h]
 rfl
attribute [simp] ZkQ
end Go.Av
end
section
namespace Go.Av
open Go.RowKit
set_option linter.unusedVariables false
@[simp] theorem Zm2 {n : Nat} {k : IntKind} {l : List Int} (h : l.length = n) : arC k (⟨l, h⟩ : Arr n) = ints k l := rfl
@[simp] theorem Zl9 {k : IntKind} : ints k [] = [] := rfl
@[simp] theorem ZkR {k : IntKind} {x : Int} {l : List Int} : ints k (x :: l) = .v (.int k x) :: ints k l := rfl
end Go.Av
end
section
namespace Go.Av
open Go.RowKit
set_option linter.unusedVariables false
def Zde {K V : Type} [DecidableEq K] (k : K) : List (K × V) → Option V
 | [] => none
 | (a, v) :: l => if k = a then some v else Zde k l
def Zdv {K V : Type} [DecidableEq K] (k : K) (v : V) : List (K × V) → List (K × V)
 | [] => [(k, v)]
 | (a, w) :: l => if k = a then (k, v) :: l else (a, w) :: Zdv k v l
section
variable {K V : Type} [DecidableEq K] {n : Nat} {eK : K → List Cell} {eV : V → List Cell}
theorem Ziu (hn : ∀ k, (eK k).length = n) (he : ∀ a b, kEq (eK a) (eK b) = decide (a = b)) (k : K) : ∀ l : List (K × V), ZcR n (eK k) (l.map fun x => eK x.1 ++ eV x.2) = (Zde k l).map eV
 | [] => rfl
 | (a, v) :: l => by
  simp only [List.map_cons, ZcR, Zde, List.take_left' (hn a), List.drop_left' (hn a), he]
  by_cases h : k = a
  ·simp [h]
  ·simp [h, Ziu hn he k l]
theorem Ziv (hn : ∀ k, (eK k).length = n) (he : ∀ a b, kEq (eK a) (eK b) = decide (a = b)) (k : K) (v : V) : ∀ l : List (K × V), Zdp n (eK k) (eV v) (l.map fun x => eK x.1 ++ eV x.2) = (Zdv k v l).map fun x => eK x.1 ++ eV x.2
 | [] => rfl
 | (a, w) :: l => by
  simp only [List.map_cons, Zdp, Zdv, List.take_left' (hn a), he]
  by_cases h : k = a
  ·simp [h]
  ·simp [h, Ziv hn he k v l]
end
@[simp] theorem Zja {n : Nat} {k k' : IntKind} {a b : Arr n} {s t : List Cell} : kEq (arC k a ++ s) (arC k' b ++ t) = (decide (a = b) && kEq s t) := by
 have h : ∀ {l m : List Int}, l.length = m.length → kEq (ints k l ++ s) (ints k' m ++ t) = ((l == m) && kEq s t) := by
  intro l
  induction l with
  | nil => intro m h; cases m with
   | nil => simp [ints]
   | cons y m => simp at h
  | cons x l ih => intro m h; cases m with
   | nil => simp at h
   | cons y m =>
    have := ih (m := m) (by simpa using h)
    simp only [ints] at this
    simp only [ints, List.map_cons, List.cons_append, kEq, kEq1, this, List.cons_beq_cons, Bool.and_assoc]
 unfold arC
 rw [h (by rw [a.hl, b.hl])]
 have e : (a.l == b.l) = decide (a = b) := by
  cases a; cases b
  rw [Bool.eq_iff_iff]
  simp
 rw [e]
@[simp] theorem Zqa {n : Nat} {k k' : IntKind} {a b : Arr n} : kEq (arC k a) (arC k' b) = decide (a = b) := by
 have := Zja (k := k) (k' := k') (a := a) (b := b) (s := []) (t := [])
 simpa [kEq] using this
@[simp] theorem ZhP {n : Nat} {k : IntKind} {a b : Arr n} {s t : List Cell} : kKind (arC k a ++ s) (arC k b ++ t) = kKind s t := by
 have h : ∀ {l m : List Int}, l.length = m.length → kKind (ints k l ++ s) (ints k m ++ t) = kKind s t := by
  intro l
  induction l with
  | nil => intro m h; cases m with
   | nil => simp [ints]
   | cons y m => simp at h
  | cons x l ih => intro m h; cases m with
   | nil => simp at h
   | cons y m =>
    have := ih (m := m) (by simpa using h)
    simp only [ints] at this
    simp [ints, kKind, kKind1, this]
 unfold arC
 exact h (by rw [a.hl, b.hl])
@[simp] theorem Zpt {n : Nat} {k : IntKind} {a b : Arr n} : kKind (arC k a) (arC k b) = true := by
 have := ZhP (k := k) (a := a) (b := b) (s := []) (t := [])
 simpa [kKind] using this
@[simp] theorem Zqb {n : Nat} {k : IntKind} {a : Arr n} : (arC k a).all Cell.isI = true := by simp [arC, ints, Cell.isI]
def ZbS (l : List Int) : ByteArray := ⟨(l.map fun n => UInt8.ofNat n.toNat).toArray⟩
def ZkS (s : ByteArray) : List Int := s.data.toList.map fun b => (b.toNat : Int)
@[simp] theorem ZnF (l : List Int) : ZfP (Zi .u8 l) = some (ZbS l) := by
 have : bytesL (Zi .u8 l) = some (l.map fun n => UInt8.ofNat n.toNat) := by
  induction l with
  | nil => rfl
  | cons x l ih => simp only [Zi, List.map_cons] at *; simp [bytesL, byteOf, ih]
 simp [ZfP, this, ZbS]
@[simp] theorem ZoT (s : ByteArray) : (s.data.toList.map fun b => [Cell.v (.int .u8 (b.toNat : Int))]) = Zi .u8 (ZkS s) := by simp [Zi, ZkS]
@[simp] theorem ZoD (bx : Boxes) (o : Own) (els : List (List Cell)) : ZcI bx (.slice o els) = some els := rfl
@[simp] theorem ZpM (a b : ByteArray) : pureOf (Op.stringOp .eql a b) = some (.bool (decide (a = b))) := by
 have : (a == b) = decide (a = b) := by
  rw [Bool.eq_iff_iff, MapKept.bytes_beq]
  simp
 show some (Value.bool (a.toList == b.toList)) = _
 rw [← beq_toListBytes, this]
@[simp] theorem ZpN (a b : ByteArray) : pureOf (Op.stringOp .neq a b) = some (.bool (!decide (a = b))) := by
 have : (a == b) = decide (a = b) := by
  rw [Bool.eq_iff_iff, MapKept.bytes_beq]
  simp
 show some (Value.bool (!(a.toList == b.toList))) = _
 rw [← beq_toListBytes, this]
end Go.Av
end
section
namespace Go.Lc
open Go.RowKit
open Go.Av
set_option maxRecDepth 100000
set_option linter.unusedSimpArgs false
set_option linter.unusedVariables false
abbrev Tapi_OutPoint := (Arr 32) × Int
noncomputable def ZcM (a0 : (List Int)) (a1 : (List Int)) : Option ((List Int)) :=
 (chk (0 ≤ IntKind.i64.wrap ((a0.length : Int) + (a1.length : Int)) ∧ IntKind.i64.wrap ((a0.length : Int) + (a1.length : Int)) ≤ 140737488355328)).bind fun _ => (chk (a0.length ≤ 140737488355328)).bind fun _ => (chk (a0.length + a1.length ≤ 140737488355328)).bind fun _ => some (a0 ++ a1)
noncomputable def Zem (p9 : (List Int)) : Option (List Int) :=
 some (p9)
noncomputable def ZbT (a1 : Int) (a0 : Int) : (Int × (List Int)) → Option ((Int × (List Int)) ⊕ ((List Int)))
 | (p8, p9) => (if p8 < a1 then (chk (¬ (IntKind.i64.wrap (8 * p8) < 0))).bind fun _ => (inA (p9.length) (p8)).bind fun j13 => some (.inl (IntKind.i64.wrap (p8 + 1), (p9).set j13 (IntKind.u8.wrap ((a0).fdiv (2 ^ (min (IntKind.i64.wrap (8 * p8)).toNat 64)))))) else (Zem p9).map Sum.inr)
noncomputable def ZcN (a0 : Int) (a1 : Int) : Option ((List Int)) :=
 (chk (0 ≤ a1 ∧ a1 ≤ 140737488355328)).bind fun _ => Zr (ZbT a1 a0) (0, List.replicate ((a1).toNat) 0)
noncomputable def ZcT (a0 : (List Int)) (a1 : Int) : Option ((List Int)) :=
 (ZcN (IntKind.u64.wrap (a1)) 4).bind fun y1 => (ZcM a0 y1).bind fun y2 => some (y2)
noncomputable def Zcy (a0 : (List Int)) (a1 : (Arr 32)) : Option ((List Int)) :=
 (ZcM a0 a1.l).bind fun y1 => some (y1)
noncomputable def Zhu (a0 : Tapi_OutPoint) : Option ((List Int)) :=
 (Zcy ([] : (List Int)) a0.1).bind fun y1 => (ZcT y1 a0.2).bind fun y2 => some (y2)
noncomputable def Zaw (a0 : (List Int)) (a1 : (List Int)) : Option ((List Int)) :=
 (chk (0 ≤ IntKind.i64.wrap ((a0.length : Int) + (a1.length : Int)) ∧ IntKind.i64.wrap ((a0.length : Int) + (a1.length : Int)) ≤ 140737488355328)).bind fun _ => (chk (a0.length ≤ 140737488355328)).bind fun _ => (chk (a0.length + a1.length ≤ 140737488355328)).bind fun _ => some (a0 ++ a1)
def Zfg (x : (List Int)) : Prop := x.length ≤ maxLen ∧ ∀ a ∈ x, (0 ≤ a ∧ a ≤ 255)
end Go.Lc
end
section
namespace Go.Av
open Go.RowKit
set_option linter.unusedVariables false
theorem ZkT {k : IntKind} (l : List Int) : (Zi k l).flatten = ints k l := by
 induction l with
 | nil => rfl
 | cons x l ih => simp only [Zi, ints, List.map_cons, List.flatten_cons] at *; rw [ih]; rfl
@[simp high] theorem Znp {k : IntKind} {l : List Int} : (Zi k l).flatten.length = l.length := by rw [ZkT]; simp [ints]
def Arr.over {n : Nat} (a : Arr n) (l : List Int) : Arr n := ⟨l.take n ++ a.l.drop (min l.length n), by have := a.hl; simp; omega⟩
@[simp] theorem sg_u8 : IntKind.u8.signed = false := rfl
@[simp] theorem mx_u8 : IntKind.u8.max = 255 := rfl
@[simp] theorem sg_u16 : IntKind.u16.signed = false := rfl
@[simp] theorem mx_u16 : IntKind.u16.max = 65535 := rfl
@[simp] theorem sg_u32 : IntKind.u32.signed = false := rfl
@[simp] theorem mx_u32 : IntKind.u32.max = 4294967295 := rfl
@[simp] theorem sg_u64 : IntKind.u64.signed = false := rfl
@[simp] theorem mx_u64 : IntKind.u64.max = 18446744073709551615 := rfl
@[simp] theorem sg_i8 : IntKind.i8.signed = true := rfl
@[simp] theorem sg_i16 : IntKind.i16.signed = true := rfl
@[simp] theorem sg_i32 : IntKind.i32.signed = true := rfl
@[simp] theorem sg_i64 : IntKind.i64.signed = true := rfl
theorem Zv {α β : Type} {enc : α → List PV} (hi : ∀ a b, enc a = enc b → a = b) {g : α → Option β} {R : α → β → PV × List (List Cell)} {x : α} {y : β} (h : g x = some y) : Z7 enc (fun x => (g x).map (R x)) (enc x) = some (R x y) := by
 rw [ZmX hi, h]; rfl
theorem mkI {P : Program} {tt : TT} {T : Tab} {G : Glob} {α β : Type} {enc : α → List PV} {g : α → Option β} {R : α → β → PV × List (List Cell)} (hm : P.follows .mixedOrders = true) (htt : ∀ t i, tt t = some i → YL P t = some i) (hT : ∀ f F, T f = some F → ZS P G (f % 1000000) F) {f : FuncId} {fn : Func} {c : Code}
  (hf : P.funcs[f]? = some fn) (hb : fn.body = some c) (hname : (fn.name == "runtime.NumGoroutine") = false) (w : ∀ x y, g x = some y → ∃ kp fl n, ZI tt T G kp fl n fn (enc x) = some (R x y)) : ZS P G f (Z7 enc fun x => (g x).map (R x)) :=
 ZmT hm htt hT hf hb hname fun ps r ho hF => by
  obtain ⟨x, rfl, h⟩ := Zgs hF
  obtain ⟨y, hy, rfl⟩ := Option.map_eq_some_iff.1 h
  exact w x y hy
@[simp] theorem ba_beq (a b : ByteArray) : (a == b) = true ↔ a = b := by
 obtain ⟨a⟩ := a
 obtain ⟨b⟩ := b
 have : ((⟨a⟩ : ByteArray) == ⟨b⟩) = (a == b) := rfl
 rw [this]
 simp
theorem Zma {α : Type} {l : List α} {n i : Nat} {x : α} (h : (l.take n)[i]? = some x) : l[i]? = some x := by
 rw [List.getElem?_take] at h
 split at h
 ·exact h
 ·cases h
@[simp] theorem ZpO {k : IntKind} {l : List Int} : Zi k l.tail = (Zi k l).tail := by simp [Zi]
theorem ZgR {P : Program} {G : Glob} {f : FuncId} {fn : Func} {c : Code} {F : List PV → Option (PV × List (List Cell))} (hf : P.funcs[f]? = some fn) (hb : fn.body = some c) (hname : (fn.name == "runtime.NumGoroutine") = false) (hF : ∀ ps, F ps = none) : ZS P G f F :=
 fun S w ks hs ps vs r outs _ _ _ _ h => by rw [hF] at h; cases h
theorem ZgS {α β : Type} {enc : α → List PV} {g : α → Option β} {R : α → β → PV × List (List Cell)} (h : ∀ x, g x = none) : ∀ ps, Z7 enc (fun x => (g x).map (R x)) ps = none := by
 intro ps
 unfold Z7
 split
 ·simp only [h]; rfl
 ·rfl
noncomputable def ZfH {α : Type} (g : Nat → Option α) : Option α := by
 classical
 exact if h : ∃ n, (g n).isSome = true then g (Classical.choose h) else none
theorem ZkU {α : Type} {g : Nat → Option α} {y : α} (h : ZfH g = some y) : ∃ n, g n = some y := by
 unfold ZfH at h
 split at h
 ·exact ⟨_, h⟩
 ·cases h
theorem Zm3 {α : Type} {g : Nat → Option α} {y : α} (h : ∀ n x, g n = some x → x = y) (hn : ∃ n, g n = some y) : ZfH g = some y := by
 obtain ⟨n, hn⟩ := hn
 have hx : ∃ n, (g n).isSome = true := ⟨n, by rw [hn]; rfl⟩
 unfold ZfH
 rw [dif_pos hx]
 obtain ⟨x, hx'⟩ := Option.isSome_iff_exists.1 (Classical.choose_spec hx)
 rw [hx', h _ _ hx']
theorem Ziw {P : Program} {G : Glob} {f : FuncId} {α β : Type} {enc : α → List PV} {g : Nat → α → Option β} {R : α → β → PV × List (List Cell)} (h : ∀ n, ZS P G f (Z7 enc fun x => (g n x).map (R x))) : ZS P G f (Z7 enc fun x => (ZfH fun n => g n x).map (R x)) := by
 intro S w ks hs ps vs r outs a1 a2 a3 a4 hF
 unfold Z7 at hF
 split at hF
 ·rename_i he
  obtain ⟨y, hy, hr⟩ := Option.map_eq_some_iff.1 hF
  obtain ⟨n, hn⟩ := ZkU hy
  refine h n S w ks hs ps vs r outs a1 a2 a3 a4 ?_
  unfold Z7
  rw [dif_pos he]
  simp only [hn]
  simpa using hr
 ·cases hF
theorem pq : (∀ {id : Nat} {Q : AE → ASt → Prop} {s : ASt} {i : Nat}, Ze9 id Q (.exit i) s = if i = id then Q .normal s else Q (.exit i) s) ∧ (∀ {id : Nat} {Q : AE → ASt → Prop} {s : ASt}, Ze9 id Q .normal s = Q .normal s) ∧ (∀ {id : Nat} {Q : AE → ASt → Prop} {s : ASt}, Ze9 id Q .ret s = Q .ret s) ∧
  (∀ {K : ASt → Prop} {Q : AE → ASt → Prop} {s : ASt}, ZdH K Q .normal s = K s) ∧ (∀ {K : ASt → Prop} {Q : AE → ASt → Prop} {s : ASt} {i : Nat}, ZdH K Q (.exit i) s = Q (.exit i) s) ∧ (∀ {K : ASt → Prop} {Q : AE → ASt → Prop} {s : ASt}, ZdH K Q .ret s = Q .ret s) ∧
  (∀ {σ ρ : Type} {kq : Kp} {H : σ → ASt} {Q : AE → ASt → Prop} {r : ρ} {s : σ}, QL kq H Q r (.inl s) = ZdH (fun st => ZbG kq st = H s) fun _ _ => False) ∧ (∀ {σ ρ : Type} {kq : Kp} {H : σ → ASt} {Q : AE → ASt → Prop} {r r' : ρ}, QL kq H Q r (.inr r') = ZdH (fun _ => False) fun e st => r' = r → Q e st) ∧
  (∀ {a b : Prop}, (if True then a else b) = a) ∧ (∀ {a b : Prop}, (if False then a else b) = b) :=
 ⟨rfl, rfl, rfl, rfl, rfl, rfl, rfl, rfl, by simp, by simp⟩
theorem nf : (∀ {k : IntKind}, Zi k [] = []) ∧ (∀ {k : IntKind} {x : Int} {l : List Int}, Zi k (x :: l) = [.v (.int k x)] :: Zi k l) ∧ (∀ {k : IntKind} {l m : List Int}, Zi k (l ++ m) = Zi k l ++ Zi k m) ∧ (∀ {k : IntKind} {l : List Int} {n : Nat}, Zi k (l.take n) = (Zi k l).take n) ∧
  (∀ {k : IntKind} {l : List Int} {n : Nat}, Zi k (l.drop n) = (Zi k l).drop n) ∧ (∀ {k : IntKind} {l : List Int} {n : Nat} {x : Int}, Zi k (l.set n x) = (Zi k l).set n [.v (.int k x)]) ∧ (∀ {k : IntKind} {n : Nat} {x : Int}, Zi k (List.replicate n x) = List.replicate n [.v (.int k x)]) ∧
  (∀ {α β : Type} {f : α → β}, List.map f [] = []) ∧ (∀ {α β : Type} {f : α → β} {a : α} {l : List α}, List.map f (a :: l) = f a :: List.map f l) ∧ (∀ {α β : Type} {f : α → β} {l m : List α}, List.map f (l ++ m) = List.map f l ++ List.map f m) ∧ (∀ {α β : Type} {f : α → β} {l : List α} {n : Nat}, List.map f (l.take n) = (List.map f l).take n) ∧
  (∀ {α β : Type} {f : α → β} {l : List α} {n : Nat}, List.map f (l.drop n) = (List.map f l).drop n) ∧ (∀ {α β : Type} {f : α → β} {l : List α} {n : Nat} {x : α}, List.map f (l.set n x) = (List.map f l).set n (f x)) ∧ (∀ {α β : Type} {f : α → β} {n : Nat} {x : α}, List.map f (List.replicate n x) = List.replicate n (f x)) ∧
  (∀ {α : Type} {l : List α}, [] ++ l = l) ∧ (∀ {α : Type} {x : α} {l m : List α}, x :: l ++ m = x :: (l ++ m)) ∧ (∀ {α : Type} {l m n : List α}, l ++ m ++ n = l ++ (m ++ n)) :=
 ⟨ZkN, Zj7, ZkO, Zgu, Zl8, Zd, ZkP, List.map_nil, List.map_cons, List.map_append, List.map_take, List.map_drop, List.map_set, List.map_replicate, List.nil_append _, List.cons_append, List.append_assoc _ _ _⟩
theorem bs {α β : Type} {o : Option α} {f : α → Option β} {y : β} (h : o.bind f = some y) : ∃ x, o = some x ∧ f x = some y := Option.bind_eq_some_iff.1 h
theorem ms {α β : Type} {o : Option α} {f : α → β} {y : β} (h : o.map f = some y) : ∃ x, o = some x ∧ f x = y := Option.map_eq_some_iff.1 h
theorem Zj8 {e n : Nat} {L : List (List Cell)} (h : ∀ l ∈ L, l.length = e) (hn : L.length = n) : XZ e n L.flatten = L := by
 subst hn
 exact ZdU h
theorem Ya {k : IntKind} {n : Nat} {l : List Int} (h : l.length = n) : XZ 1 n (Zi k l).flatten = Zi k l :=
 Zj8 (fun x hx => intsR_all x hx) (by simpa [Zi] using h)
theorem Zix {P : Program} {G : Glob} {f : FuncId} {fn : Func} {k k' : IntKind} {g : Int → Int} {ok : Int → Prop} (hfn : P.funcs[f]? = some fn) (hb : fn.body.isNone = false) (hnm : (fn.name == "runtime.NumGoroutine") = false)
  (F : List PV → Option (PV × List (List Cell))) (hF : ∀ ps r, F ps = some r → ∃ x, ok x ∧ ps = [.one (.v (.int k x))] ∧ r = (.one (.v (.int k' (g x))), []))
  (h : ∀ x w, ok x → Calls P f #[.int k x] w fun e w' => e = .returned (.int k' (g x)) ∧ w' = w) : ZS P G f F := by
 refine ZS.mk ⟨fn, hfn, hb, hnm⟩ ?_
 intro S w ks hh ps vs r outs hg hs ha hk hFr
 obtain ⟨x, hx, rfl, hr⟩ := hF ps _ hFr
 injection hr with hr1 hr2
 subst hr1 hr2
 cases ha with
 | one ha1 ha =>
  cases ha
  cases ha1 with
  | pure ha1 =>
   cases ha1 with
   | v _ h1 h2 =>
    refine (h x w hx).mono ?_
    rintro ee w' ⟨rfl, rfl⟩
    exact ⟨_, S, _, _, rfl, .base (.one (.pure (.v _ (by rfl) (by simp)))), .skip (by simp) (by simp) .nil, by simp [ZM], X0.refl _ _ _, fun _ _ h => h, fun _ _ h => .inl h, hs⟩
@[simp] theorem ZoU {L : List (List Cell)} : YX L.flatten = Z2 L := List.all_flatten
@[simp] theorem ZoE {L : List (List Cell)} : hasSlL L.flatten = L.any hasSlL := List.any_flatten
@[simp] theorem ZoF {k : IntKind} {l : List Int} : (Zi k l).any hasSlL = false := by simp [Zi, hasSlL, Cell.hasSl, List.any_map]
def clr {α : Type} (l : List α) (i n : Nat) (z : α) : List α := l.take i ++ (List.replicate (min n (l.length - i)) z ++ l.drop (i + n))
@[simp] theorem Zj9 {α : Type} {l : List α} {i n : Nat} {z : α} : (clr l i n z).length = l.length := by simp [clr]; omega
@[simp] theorem Ziy {α : Type} {l : List α} {i n : Nat} {z : α} : (clr l i n z).take i = l.take i := by
 unfold clr
 rcases Nat.le_total i l.length with h | h
 ·rw [List.take_append_of_le_length (by simp [h]), List.take_take, Nat.min_self]
 ·rw [List.take_of_length_le h, show min n (l.length - i) = 0 by omega, List.drop_of_length_le (by omega)]
  simp [List.take_of_length_le h]
@[simp] theorem Znq {k : IntKind} {l : List Int} {i n : Nat} {z : Int} : List.take i (Zi k (clr l i n z)) = List.take i (Zi k l) := by
 rw [← Zgu, Ziy, Zgu]
theorem Zmb {k : IntKind} {l : List Int} {i n : Nat} (h : i + n ≤ l.length) : List.take i (Zi k l) ++ (List.replicate n [.v (.int k 0)] ++ List.drop (i + n) (Zi k l)) = Zi k (clr l i n 0) := by
 simp [clr, show min n (l.length - i) = n by omega]
end Go.Av
end
section
namespace Go.Lc
open Go.RowKit
open Go.Av
set_option maxRecDepth 100000
set_option linter.unusedSimpArgs false
set_option linter.unusedVariables false
end Go.Lc
end
section
namespace Go.Lc
open Go.RowKit
open Go.Av
set_option maxRecDepth 100000
set_option linter.unusedSimpArgs false
set_option linter.unusedVariables false
end Go.Lc
end
