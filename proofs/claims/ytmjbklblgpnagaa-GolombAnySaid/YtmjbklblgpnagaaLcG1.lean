import Derived.Test.YtmjbklblgpnagaaAvP3
import Derived.WalkSpells
import Derived.MapKept
import Derived.Laws.StructEq
import Derived.Lib.BitFns
section
namespace Go.Av
open Go.RowKit
set_option linter.unusedVariables false

/-! runs with enough fuel -/
section
variable {tt : TT} {T : Tab} {G : Glob} {kp : Keep} {st st0 st1 : ASt} {a b c d : Code} {Q Q' : AE → ASt → Prop}
def EndE (tt : TT) (T : Tab) (G : Glob) (kp : Keep) (c : Code) (st : ASt) (Q : AE → ASt → Prop) : Prop := ∃ n0 e s, (∀ n, n0 ≤ n → exec tt T G kp n c st = some (e, s)) ∧ Q e s
theorem ee_seq (h : EndE tt T G kp a st (thenQ (fun s => EndE tt T G kp b s Q) Q)) : EndE tt T G kp (.seq a b) st Q := by
 obtain ⟨n0, e, s, h1, h2⟩ := h
 cases e with
 | normal =>
  obtain ⟨n1, e', s', h3, h4⟩ := h2
  exact ⟨max n0 n1, e', s', fun n hn => by simp [exec, h1 n (by omega), h3 n (by omega)], h4⟩
 | exit id => exact ⟨n0, _, _, fun n hn => by simp [exec, h1 n hn], h2⟩
 | ret => exact ⟨n0, _, _, fun n hn => by simp [exec, h1 n hn], h2⟩
theorem ee_reg {id : Nat} {ops : Array Oper} (hc : c = .region id ops false) (h : runL tt T G ops.toList ops.toList st = some st1) (hq : Q .normal st1) (hj : (kp (id + 1000000)).ks.isEmpty = true := by rfl) : EndE tt T G kp c st Q := ⟨0, _, _, fun n _ => by subst hc; simp [exec, joinSt, hj, h], hq⟩
theorem ee_draw {id : Nat} {ops : Array Oper} {fs : List Foot} (hc : c = .region id ops true) (h : runU tt T G ops.toList ops.toList st = some (st1, fs)) (hd : drawOk ops.toList fs = true) (hq : Q .normal st1) (hj : (kp (id + 1000000)).ks.isEmpty = true := by rfl) : EndE tt T G kp c st Q := ⟨0, _, _, fun n _ => by subst hc; simp [exec, joinSt, hj, h, hd], hq⟩
theorem ee_seq_reg {id : Nat} {ops : Array Oper} (hc : c = .region id ops false) (h : runL tt T G ops.toList ops.toList st = some st1) (hq : EndE tt T G kp b st1 Q) (hj : (kp (id + 1000000)).ks.isEmpty = true := by rfl) : EndE tt T G kp (.seq c b) st Q := ee_seq (ee_reg hc h hq hj)
theorem ee_seq_draw {id : Nat} {ops : Array Oper} {fs : List Foot} (hc : c = .region id ops true) (h : runU tt T G ops.toList ops.toList st = some (st1, fs)) (hd : drawOk ops.toList fs = true) (hq : EndE tt T G kp b st1 Q) (hj : (kp (id + 1000000)).ks.isEmpty = true := by rfl) : EndE tt T G kp (.seq c b) st Q := ee_seq (ee_draw hc h hd hq hj)
theorem ee_skip (h : Q .normal st) : EndE tt T G kp .skip st Q := ⟨0, _, _, fun _ _ => rfl, h⟩
theorem ee_ret (h : Q .ret st) : EndE tt T G kp .ret st Q := ⟨0, _, _, fun _ _ => rfl, h⟩
theorem ee_exit {id : Nat} (h : Q (.exit id) st) : EndE tt T G kp (.exit id) st Q := ⟨0, _, _, fun _ _ => rfl, h⟩
theorem ee_seq_skip (h : EndE tt T G kp b st Q) : EndE tt T G kp (.seq .skip b) st Q := ee_seq (ee_skip h)
theorem ee_seq_ret (h : Q .ret st) : EndE tt T G kp (.seq .ret b) st Q := ee_seq (ee_ret h)
theorem ee_seq_exit {id : Nat} (h : Q (.exit id) st) : EndE tt T G kp (.seq (.exit id) b) st Q := ee_seq (ee_exit h)
theorem ee_assoc (h : EndE tt T G kp (.seq a (.seq b d)) st Q) : EndE tt T G kp (.seq (.seq a b) d) st Q := by
 obtain ⟨n0, e, s, h1, h2⟩ := h
 refine ⟨n0, e, s, fun n hn => ?_, h2⟩
 rw [← h1 n hn]
 simp only [exec]
 cases exec tt T G kp n a st with
 | none => rfl
 | some x => obtain ⟨e, s⟩ := x; cases e <;> rfl
theorem ee_condT {x : Operand} (h : rd G st.get x = some (bV true)) (h1 : EndE tt T G kp a st Q) : EndE tt T G kp (.cond x a b) st Q := by
 unfold bV at h
 obtain ⟨n0, e, s, h3, h4⟩ := h1; exact ⟨n0, e, s, fun n hn => by simp only [exec, h, h3 n hn, if_true], h4⟩
theorem ee_condF {x : Operand} (h : rd G st.get x = some (bV false)) (h1 : EndE tt T G kp b st Q) : EndE tt T G kp (.cond x a b) st Q := by
 unfold bV at h
 obtain ⟨n0, e, s, h3, h4⟩ := h1; exact ⟨n0, e, s, fun n hn => by simp only [exec, h, h3 n hn, Bool.false_eq_true, if_false], h4⟩
theorem ee_seq_condT {x : Operand} (h : rd G st.get x = some (bV true)) (h1 : EndE tt T G kp (.seq a d) st Q) : EndE tt T G kp (.seq (.cond x a b) d) st Q := by
 unfold bV at h
 obtain ⟨n0, e, s, h3, h4⟩ := h1; exact ⟨n0, e, s, fun n hn => by rw [← h3 n hn]; simp only [exec, h, if_true], h4⟩
theorem ee_seq_condF {x : Operand} (h : rd G st.get x = some (bV false)) (h1 : EndE tt T G kp (.seq b d) st Q) : EndE tt T G kp (.seq (.cond x a b) d) st Q := by
 unfold bV at h
 obtain ⟨n0, e, s, h3, h4⟩ := h1; exact ⟨n0, e, s, fun n hn => by rw [← h3 n hn]; simp only [exec, h, Bool.false_eq_true, if_false], h4⟩
theorem ee_block {id : Nat} (h : EndE tt T G kp c st (outOf id Q)) : EndE tt T G kp (.block id c) st Q := by
 obtain ⟨n0, e, s, h1, h2⟩ := h
 cases e with
 | normal => exact ⟨n0, .normal, s, fun n hn => by simp [exec, h1 n hn], h2⟩
 | ret => exact ⟨n0, .ret, s, fun n hn => by simp [exec, h1 n hn], h2⟩
 | exit id' =>
  simp only [outOf] at h2
  split at h2
  ·rename_i hid; exact ⟨n0, .normal, s, fun n hn => by simp [exec, h1 n hn, hid], h2⟩
  ·rename_i hid; exact ⟨n0, .exit id', s, fun n hn => by simp [exec, h1 n hn, hid], h2⟩
theorem ee_seq_block {id : Nat} (h : EndE tt T G kp c st (outOf id (thenQ (fun s => EndE tt T G kp d s Q) Q))) : EndE tt T G kp (.seq (.block id c) d) st Q := ee_seq (ee_block h)

/-! joins: what is behind them is walked once -/
theorem exec_jn {n : Nat} {st st' : ASt} : ∀ {c : Code} {key : Nat}, firstJ c = some key → (kp key).ks.isEmpty = false → forget (kp key) st = forget (kp key) st' → exec tt T G kp n c st = exec tt T G kp n c st' := by
 intro c
 induction c with
 | region id ops dr =>
  intro key hc ha hf
  simp only [firstJ, Option.some.injEq] at hc
  subst hc
  simp only [exec, joinSt, ha, Bool.false_eq_true, if_false, hf]
 | seq a b iha ihb =>
  intro key hc ha hf
  simp only [firstJ] at hc
  simp only [exec, iha hc ha hf]
 | block id c ih =>
  intro key hc ha hf
  simp only [firstJ] at hc
  simp only [exec, ih hc ha hf]
 | loop c ih =>
  intro key hc ha hf
  simp only [firstJ, Option.some.injEq] at hc
  subst hc
  cases n with
  | zero => rfl
  | succ n => simp only [exec, iter, hf]
 | _ => intro key hc; simp [firstJ] at hc
theorem ee_join {key : Nat} {kq : Kp} {H : ASt} (hc : firstJ c = some key) (hk : kp key = kq) (ha : kq.ks.isEmpty = false) (hf : forget kq st = forget kq H) (h : EndE tt T G kp c H Q) : EndE tt T G kp c st Q := by
 subst hk
 obtain ⟨n0, e, s, h1, h2⟩ := h
 exact ⟨n0, e, s, fun n hn => by rw [exec_jn hc ha hf]; exact h1 n hn, h2⟩
/-- what is behind is shown first -/
theorem ee_seq_J {σ ρ : Type} {l rhs : Option ρ} (_ : l = rhs) (H : σ → ASt) (f : σ → Option ρ) (hJ : ∀ s, f s = rhs → EndE tt T G kp b (H s) Q) (hm : (∀ s, f s = rhs → EndE tt T G kp b (H s) Q) → EndE tt T G kp (.seq a b) st Q) : EndE tt T G kp (.seq a b) st Q := hm hJ
theorem ee_J {σ ρ : Type} {l rhs : Option ρ} (_ : l = rhs) (X : AE) (H : σ → ASt) (f : σ → Option ρ) (hJ : ∀ s, f s = rhs → Q X (H s)) (hm : (∀ s, f s = rhs → Q X (H s)) → EndE tt T G kp c st Q) : EndE tt T G kp c st Q := hm hJ
/-- a region ahead of which something is forgotten -/
theorem ee_regJ {id : Nat} {ops : Array Oper} {kq : Kp} (hc : c = .region id ops false) (hk : kp (id + 1000000) = kq) (hf : joinSt kq st = st0) (h : runL tt T G ops.toList ops.toList st0 = some st1) (hq : Q .normal st1) : EndE tt T G kp c st Q := ⟨0, _, _, fun n _ => by subst hc; simp [exec, hk, hf, h], hq⟩
theorem ee_drawJ {id : Nat} {ops : Array Oper} {kq : Kp} {fs : List Foot} (hc : c = .region id ops true) (hk : kp (id + 1000000) = kq) (hf : joinSt kq st = st0) (h : runU tt T G ops.toList ops.toList st0 = some (st1, fs)) (hd : drawOk ops.toList fs = true) (hq : Q .normal st1) : EndE tt T G kp c st Q := ⟨0, _, _, fun n _ => by subst hc; simp [exec, hk, hf, h, hd], hq⟩
theorem ee_seq_regJ {id : Nat} {ops : Array Oper} {kq : Kp} (hc : c = .region id ops false) (hk : kp (id + 1000000) = kq) (hf : joinSt kq st = st0) (h : runL tt T G ops.toList ops.toList st0 = some st1) (hq : EndE tt T G kp b st1 Q) : EndE tt T G kp (.seq c b) st Q := ee_seq (ee_regJ hc hk hf h hq)
theorem ee_seq_drawJ {id : Nat} {ops : Array Oper} {kq : Kp} {fs : List Foot} (hc : c = .region id ops true) (hk : kp (id + 1000000) = kq) (hf : joinSt kq st = st0) (h : runU tt T G ops.toList ops.toList st0 = some (st1, fs)) (hd : drawOk ops.toList fs = true) (hq : EndE tt T G kp b st1 Q) : EndE tt T G kp (.seq c b) st Q := ee_seq (ee_drawJ hc hk hf h hd hq)

/-! loops -/
def iterS {σ ρ : Type} (step : σ → Option (σ ⊕ ρ)) : Nat → σ → Option ρ
 | 0, _ => none
 | m + 1, s => match step s with | some (.inl s') => iterS step m s' | some (.inr r) => some r | none => none
theorem iterS_mono {σ ρ : Type} {step : σ → Option (σ ⊕ ρ)} : ∀ {m : Nat} {s : σ} {r : ρ}, iterS step m s = some r → ∀ k, iterS step (m + k) s = some r
 | 0, _, _, h => by simp [iterS] at h
 | m + 1, s, r, h => by
  intro k
  rw [show m + 1 + k = (m + k) + 1 by omega]
  simp only [iterS] at h ⊢
  split at h
  ·rename_i s' hs
   exact iterS_mono h k
  ·exact h
  ·simp at h
noncomputable def runLoop {σ ρ : Type} (step : σ → Option (σ ⊕ ρ)) (s : σ) : Option ρ := by
 classical
 exact if h : ∃ m r, iterS step m s = some r then some (Classical.choose (Classical.choose_spec h)) else none
theorem runLoop_some {σ ρ : Type} {step : σ → Option (σ ⊕ ρ)} {s : σ} {r : ρ} : runLoop step s = some r ↔ ∃ m, iterS step m s = some r := by
 unfold runLoop
 constructor
 ·intro h
  split at h
  ·rename_i hx
   have := Classical.choose_spec (Classical.choose_spec hx)
   injection h with h
   rw [h] at this
   exact ⟨_, this⟩
  ·simp at h
 ·rintro ⟨m, h⟩
  have hx : ∃ m r, iterS step m s = some r := ⟨m, r, h⟩
  rw [dif_pos hx]
  have h2 := Classical.choose_spec (Classical.choose_spec hx)
  have h3 := iterS_mono h (Classical.choose hx)
  have h4 := iterS_mono h2 m
  rw [Nat.add_comm, h3] at h4
  exact h4.symm
theorem runLoop_eq {σ ρ : Type} (step : σ → Option (σ ⊕ ρ)) (s : σ) : runLoop step s = (match step s with | some (.inl s') => runLoop step s' | some (.inr r) => some r | none => none) := by
 apply Option.ext
 intro r
 rw [runLoop_some]
 constructor
 ·rintro ⟨m, h⟩
  cases m with
  | zero => simp [iterS] at h
  | succ m =>
   simp only [iterS] at h
   split at h
   ·exact runLoop_some.2 ⟨m, h⟩
   ·exact h
   ·simp at h
 ·intro h
  split at h
  ·rename_i s' hs
   obtain ⟨m, hm⟩ := runLoop_some.1 h
   exact ⟨m + 1, by simp [iterS, hs, hm]⟩
  ·rename_i r' hs
   exact ⟨1, by simpa [iterS, hs] using h⟩
  ·simp at h
/-- what the end of a loop's body has to show -/
def QL {σ ρ : Type} (kq : Kp) (H : σ → ASt) (Q : AE → ASt → Prop) (r : ρ) : σ ⊕ ρ → AE → ASt → Prop
 | .inl s' => thenQ (fun st => forget kq st = H s') fun _ _ => False
 | .inr r' => thenQ (fun _ => False) fun e st => r' = r → Q e st
theorem it_sim {σ ρ : Type} {kq : Kp} {step : σ → Option (σ ⊕ ρ)} {H : σ → ASt} {r : ρ}
  (hb : ∀ s x, step s = some x → EndE tt T G kp c (H s) (QL kq H Q r x)) :
  ∀ (m : Nat) (s : σ) (st : ASt), iterS step m s = some r → forget kq st = H s → ∃ n0 e s', (∀ M, n0 ≤ M → ∀ n, n0 ≤ n → iter kq (exec tt T G kp n c) M st = some (e, s')) ∧ Q e s' := by
 intro m
 induction m with
 | zero => intro s st h; simp [iterS] at h
 | succ m ih =>
  intro s st h hf
  simp only [iterS] at h
  split at h
  ·rename_i s' hs
   obtain ⟨n1, e, st', h1, h2⟩ := hb s _ hs
   cases e with
   | normal =>
    obtain ⟨n2, e2, st2, h3, h4⟩ := ih s' st' h h2
    refine ⟨max n1 n2 + 1, e2, st2, fun M hM n hn => ?_, h4⟩
    obtain ⟨M, rfl⟩ : ∃ M', M = M' + 1 := ⟨M - 1, by omega⟩
    simp only [iter, hf, h1 n (by omega)]
    exact h3 M (by omega) n (by omega)
   | exit id => exact h2.elim
   | ret => exact h2.elim
  ·rename_i r' hs
   injection h with h
   subst h
   obtain ⟨n1, e, st', h1, h2⟩ := hb s _ hs
   cases e with
   | normal => exact h2.elim
   | exit id =>
    refine ⟨n1 + 1, _, _, fun M hM n hn => ?_, h2 rfl⟩
    obtain ⟨M, rfl⟩ : ∃ M', M = M' + 1 := ⟨M - 1, by omega⟩
    simp only [iter, hf, h1 n (by omega)]
   | ret =>
    refine ⟨n1 + 1, _, _, fun M hM n hn => ?_, h2 rfl⟩
    obtain ⟨M, rfl⟩ : ∃ M', M = M' + 1 := ⟨M - 1, by omega⟩
    simp only [iter, hf, h1 n (by omega)]
  ·simp at h
theorem ee_loop {σ ρ : Type} {kq : Kp} {step : σ → Option (σ ⊕ ρ)} {H : σ → ASt} (hk : kp (firstId c) = kq) {s : σ} {r : ρ}
  (hr : runLoop step s = some r) (hf : forget kq st = H s)
  (hb : ∀ s x, step s = some x → EndE tt T G kp c (H s) (QL kq H Q r x)) : EndE tt T G kp (.loop c) st Q := by
 obtain ⟨m, hm⟩ := runLoop_some.1 hr
 obtain ⟨n0, e, s', h1, h2⟩ := it_sim hb m s st hm hf
 refine ⟨n0, e, s', fun n hn => ?_, h2⟩
 simp only [exec]
 rw [hk]
 exact h1 n hn n hn
theorem fnE {fn : Func} {args : List PV} {w : Bool} {r : PV × List (List Cell)} (hb : fn.body = some c) (hc : ioChk args = true) (h : EndE tt T G kp c ⟨(ioIn 0 0 args).1 ++ List.replicate (fn.ntmps - args.length) .skip, ioBx args⟩ (FinQ tt w fn args r)) : ∃ kp fl n, execFn tt T G kp fl n fn args = some r := by
 obtain ⟨n0, e, s, h1, h2⟩ := h
 exact ⟨kp, w, n0, fn_ends hb hc ⟨e, s, h1 n0 (Nat.le_refl _), h2⟩⟩
end
end Go.Av
end
section
namespace Go.Av
open Go.RowKit
set_option linter.unusedVariables false
/-! steps that may fail -/
def idx {α : Type} (l : List α) (i : Int) : Option α := if 0 ≤ i then l[i.toNat]? else none
theorem idx_some {α : Type} {l : List α} {i : Int} {x : α} (h : idx l i = some x) : 0 ≤ i ∧ l[i.toNat]? = some x := by
 unfold idx at h
 split at h
 ·exact ⟨by assumption, h⟩
 ·simp at h
def inA (n : Nat) (i : Int) : Option Nat := if 0 ≤ i ∧ i < n then some i.toNat else none
theorem inA_some {n : Nat} {i : Int} {j : Nat} (h : inA n i = some j) : 0 ≤ i ∧ i.toNat = j ∧ j < n := by
 unfold inA at h
 split at h
 ·simp at h
  omega
 ·simp at h
def chk (p : Prop) [Decidable p] : Option Unit := if p then some () else none
theorem chk_some {p : Prop} [Decidable p] {u : Unit} (h : chk p = some u) : p := by
 unfold chk at h
 split at h
 ·assumption
 ·simp at h
theorem chk_pos {p : Prop} [Decidable p] (h : p) : chk p = some () := by simp [chk, h]
/-! encoders -/
@[simp] theorem intsR_iff {k : IntKind} {l m : List Int} : intsR k l = intsR k m ↔ l = m := ⟨intsR_inj, fun h => by rw [h]⟩
@[simp] theorem arC_iff {n : Nat} {k : IntKind} {a b : Arr n} : arC k a = arC k b ↔ a = b := ⟨arC_inj, fun h => by rw [h]⟩
@[simp] theorem arC_app {n : Nat} {k : IntKind} {a b : Arr n} {s t : List Cell} : arC k a ++ s = arC k b ++ t ↔ a = b ∧ s = t := by
 constructor
 ·intro h
  obtain ⟨h1, h2⟩ := List.append_inj h (by simp)
  exact ⟨arC_inj h1, h2⟩
 ·rintro ⟨rfl, rfl⟩; rfl
theorem map_iff {α : Type} {f : α → List Cell} (hf : ∀ a b, f a = f b → a = b) {l m : List α} : l.map f = m.map f ↔ l = m := List.map_inj_right hf
@[simp] theorem mapA_iff {n : Nat} {k : IntKind} {l m : List (Arr n)} : List.map (arC k) l = List.map (arC k) m ↔ l = m := map_iff fun _ _ h => arC_inj h
@[simp] theorem map_arC_len {n : Nat} {k : IntKind} {l : List (Arr n)} : ∀ x ∈ List.map (arC k) l, x.length = n := by simp
@[simp] theorem intsR_nil {k : IntKind} : intsR k [] = [] := rfl
@[simp] theorem intsR_cons {k : IntKind} {x : Int} {l : List Int} : intsR k (x :: l) = [.v (.int k x)] :: intsR k l := rfl
@[simp] theorem intsR_app {k : IntKind} {l m : List Int} : intsR k (l ++ m) = intsR k l ++ intsR k m := intsR_append.symm
@[simp] theorem intsR_tk {k : IntKind} {l : List Int} {n : Nat} : intsR k (l.take n) = (intsR k l).take n := (intsR_take n).symm
@[simp] theorem intsR_dr {k : IntKind} {l : List Int} {n : Nat} : intsR k (l.drop n) = (intsR k l).drop n := (intsR_drop n).symm
@[simp] theorem intsR_st {k : IntKind} {l : List Int} {n : Nat} {x : Int} : intsR k (l.set n x) = (intsR k l).set n [.v (.int k x)] := (intsR_set n x).symm
@[simp] theorem intsR_rep {k : IntKind} {n : Nat} {x : Int} : intsR k (List.replicate n x) = List.replicate n [.v (.int k x)] := by simp [intsR]
@[simp] theorem intsR_allT {k : IntKind} {m : List Int} : (∀ l, l ∈ intsR k m → l.length = 1) = True := eq_true fun l h => intsR_all l h
@[simp] theorem isSl_v (x : Value) : Cell.isSl (.v x) = false := rfl
@[simp] theorem isSl_no (els : List (List Cell)) : Cell.isSl (.slice .no els) = true := rfl
@[simp] theorem isSl_nil (els : List (List Cell)) : Cell.isSl (.slice .nil els) = false := rfl
@[simp] theorem isSl_ms (a b c d e : Nat) : Cell.isSl (.ms a b c d e) = false := rfl
@[simp] theorem isSl_fv (a b c d e : Nat) : Cell.isSl (.fv a b c d e) = false := rfl
@[simp] theorem isSl_own (e : Nat) (els : List (List Cell)) : Cell.isSl (.own e els) = false := rfl
@[simp] theorem intsR_any {k : IntKind} {l : List Int} : (intsR k l).any (fun l => l.any Cell.isSl) = false := by simp [intsR, List.any_map]
@[simp] theorem arC_any {n : Nat} {k : IntKind} {a : Arr n} : (arC k a).any Cell.isSl = false := by simp [arC, ints]
@[simp] theorem arCs_any {n : Nat} {k : IntKind} {l : List (Arr n)} : (List.map (arC k) l).any (fun l => l.any Cell.isSl) = false := by simp [List.any_map]
@[simp] theorem fixLL_rep {bx : Boxes} {ns : List Nat} {n : Nat} {l : List Cell} : fixLL bx ns (List.replicate n l) = List.replicate n (fixL bx ns l) := by simp [fixLL]
@[simp] theorem fixLL_set {bx : Boxes} {ns : List Nat} {els : List (List Cell)} {n : Nat} {l : List Cell} : fixLL bx ns (els.set n l) = (fixLL bx ns els).set n (fixL bx ns l) := by simp [fixLL, List.map_set]
@[simp] theorem fixLL_take {bx : Boxes} {ns : List Nat} {els : List (List Cell)} {n : Nat} : fixLL bx ns (els.take n) = (fixLL bx ns els).take n := by simp [fixLL]
@[simp] theorem fixLL_drop {bx : Boxes} {ns : List Nat} {els : List (List Cell)} {n : Nat} : fixLL bx ns (els.drop n) = (fixLL bx ns els).drop n := by simp [fixLL]
@[simp] theorem pureLL_rep {n : Nat} {l : List Cell} (h : pureL l = true) : pureLL (List.replicate n l) = true := by
 simp only [pureLL, List.all_eq_true, List.mem_replicate]
 rintro x ⟨_, rfl⟩
 exact h
theorem pureLL_sub {a b : List (List Cell)} (h : ∀ x ∈ a, x ∈ b) (hb : pureLL b = true) : pureLL a = true := by
 simp only [pureLL, List.all_eq_true] at *
 exact fun x hx => hb x (h x hx)
@[simp] theorem pureLL_take {n : Nat} {els : List (List Cell)} (h : pureLL els = true) : pureLL (els.take n) = true := pureLL_sub (fun _ => List.mem_of_mem_take) h
@[simp] theorem pureLL_drop {n : Nat} {els : List (List Cell)} (h : pureLL els = true) : pureLL (els.drop n) = true := pureLL_sub (fun _ => List.mem_of_mem_drop) h
@[simp] theorem pureLL_set {n : Nat} {els : List (List Cell)} {l : List Cell} (h : pureLL els = true) (hl : pureL l = true) : pureLL (els.set n l) = true := by
 simp only [pureLL, List.all_eq_true] at *
 intro x hx
 rcases List.mem_or_eq_of_mem_set hx with h1 | rfl
 ·exact h x h1
 ·exact hl
@[simp] theorem intsR_getE {k : IntKind} {l : List Int} {i : Nat} (h : i < (intsR k l).length) : (intsR k l)[i] = [.v (.int k (l[i]'(by simpa using h)))] := by simp [intsR]
theorem getE_of {α : Type} {l : List α} {i : Nat} {x : α} (h : l[i]? = some x) : ∀ h' : i < l.length, l[i] = x := fun h' => by
 rw [List.getElem?_eq_getElem h'] at h
 injection h
@[simp] theorem bits_u64 : IntKind.u64.bits = 64 := rfl
@[simp] theorem bits_u32 : IntKind.u32.bits = 32 := rfl
@[simp] theorem bits_u16 : IntKind.u16.bits = 16 := rfl
@[simp] theorem bits_u8 : IntKind.u8.bits = 8 := rfl
@[simp] theorem bits_i64 : IntKind.i64.bits = 64 := rfl
@[simp] theorem bits_i32 : IntKind.i32.bits = 32 := rfl
@[simp] theorem maxLen_eq : maxLen = 9223372036854775807 := rfl
@[simp] theorem chunk_arC {n m : Nat} {k : IntKind} {a : Arr n} (h : m ≤ n) : chunk 1 m (arC k a) = (intsR k a.l).take m := by
 unfold arC
 rw [chunk_ints (by rw [a.hl]; exact h), intsR_take]
@[simp] theorem chunk_arC_drop {n m o : Nat} {k : IntKind} {a : Arr n} (h : o + m ≤ n) : chunk 1 m ((arC k a).drop o) = ((intsR k a.l).drop o).take m := by
 unfold arC
 rw [ints_drop, chunk_ints (by have := a.hl; simp; omega), intsR_drop, intsR_take]
@[simp] theorem arr_len {n : Nat} {a : Arr n} : a.l.length = n := a.hl
@[simp] theorem cellsEq_arC {n : Nat} {k : IntKind} {a b : Arr n} {s t : List Cell} : cellsEq (arC k a ++ s) (arC k b ++ t) = (match cellsEq s t with | some c => some (decide (a = b) && c) | none => none) := by
 have h : ∀ {l m : List Int}, l.length = m.length → cellsEq (ints k l ++ s) (ints k m ++ t) = (match cellsEq s t with | some c => some ((l == m) && c) | none => none) := by
  intro l
  induction l with
  | nil => intro m h; cases m with
   | nil => simp [ints]; cases cellsEq s t <;> rfl
   | cons y m => simp at h
  | cons x l ih => intro m h; cases m with
   | nil => simp at h
   | cons y m =>
    have := ih (m := m) (by simpa using h)
    simp only [ints] at this
    simp only [ints, List.map_cons, List.cons_append, cellsEq, cellEq, if_true, this]
    cases cellsEq s t with
    | none => rfl
    | some c => simp [List.cons_beq_cons, Bool.and_assoc]
 unfold arC
 rw [h (by rw [a.hl, b.hl])]
 have e : (a.l == b.l) = decide (a = b) := by
  cases a; cases b
  rw [Bool.eq_iff_iff]
  simp
 rw [e]
@[simp] theorem put_arC_app {n : Nat} {k k' : IntKind} (a b : Arr n) (cs ds : List Cell) : putCells (arC k a ++ cs) 0 (arC k' b ++ ds) = arC k' b ++ putCells cs 0 ds := by
 unfold putCells
 simp only [List.take_zero, List.nil_append, Nat.zero_add, List.length_append, arC_len, List.drop_append, List.append_assoc]
 rw [List.drop_of_length_le (by simp)]
 simp
theorem all_map_len {α : Type} {f : α → List Cell} {s : Nat} (h : ∀ a, (f a).length = s) (m : List α) : (∀ l, l ∈ List.map f m → l.length = s) = True := eq_true fun l hl => by
 obtain ⟨a, _, rfl⟩ := List.mem_map.1 hl
 exact h a
@[simp↓] theorem arC_all {n : Nat} {k : IntKind} (m : List (Arr n)) : (∀ l, l ∈ List.map (arC k) m → l.length = n) = True := all_map_len (by simp) m
/-- what is frozen behind a call -/
def frS (b : Bool) (bx : Boxes) : List Nat → List (Nat × Box)
 | [] => []
 | x :: l => if b then frzL bx (x :: l) else []
@[simp] theorem frS_nil (b : Bool) (bx : Boxes) : frS b bx [] = [] := rfl
@[simp] theorem frS_false (bx : Boxes) (l : List Nat) : frS false bx l = [] := by cases l <;> rfl
@[simp] theorem frS_true (bx : Boxes) (l : List Nat) : frS true bx l = frzL bx l := by cases l <;> rfl
theorem callOp_eq (T : Tab) (d : Option Nat) (f : FuncId) (ps : List PV) (bx : Boxes) : callOp T d f ps bx = (match look T f, argPs bx (T.own (d.getD 90000)) ps with
 | some F, some qs =>
  match F qs with
  | some (r, outs) =>
   match ioOut bx (ioPs (T.own (d.getD 90000)) ps) outs, landR bx (d.getD 90000) r with
   | some (bo, br), some (p, bn) =>
    if nodupB (ioPs (T.own (d.getD 90000)) ps ++ (br ++ bn).map (·.1)) && (lentPs bx (T.own (d.getD 90000)) ps).all (fun x => !(ioPs (T.own (d.getD 90000)) ps ++ hdPs bx (T.own (d.getD 90000)) ps ++ (br ++ bn).map (·.1)).contains x) && (bn.isEmpty || d.isSome) && frzOk ((br ++ bn).map (·.1)) && nodupB (ioPs (T.own (d.getD 90000)) ps ++ hdPs bx (T.own (d.getD 90000)) ps) && (!(hasSlR r || outs.any hasSlL) || frzOk (lentPs bx (T.own (d.getD 90000)) ps)) then
     some ⟨putD d p, frS (hasSlR r || outs.any hasSlL) bx (lentPs bx (T.own (d.getD 90000)) ps) ++ bo ++ (br ++ bn ++ killL bx ((hdPs bx (T.own (d.getD 90000)) ps).filter fun x => !((br ++ bn).map (·.1)).contains x)), lentPs bx (T.own (d.getD 90000)) ps ++ ioPs (T.own (d.getD 90000)) ps ++ hdPs bx (T.own (d.getD 90000)) ps ++ (br ++ bn).map (·.1)⟩
    else none
   | _, _ => none
  | none => none
 | _, _ => none) := by
 have h : ∀ (b : Bool) l, (if b then frzL bx l else []) = frS b bx l := by
  intro b l
  cases b <;> simp [-frzL]
 unfold callOp
 simp only [h]
 rfl
attribute [simp] callOp_eq
end Go.Av
end
section
namespace Go.Av
open Go.RowKit
set_option linter.unusedVariables false
@[simp] theorem arC_lit {n : Nat} {k : IntKind} {l : List Int} (h : l.length = n) : arC k (⟨l, h⟩ : Arr n) = ints k l := rfl
@[simp] theorem ints_nil {k : IntKind} : ints k [] = [] := rfl
@[simp] theorem ints_cons {k : IntKind} {x : Int} {l : List Int} : ints k (x :: l) = .v (.int k x) :: ints k l := rfl
end Go.Av
end
section
namespace Go.Av
open Go.RowKit
set_option linter.unusedVariables false
/-! maps as lists -/
def mget {K V : Type} [DecidableEq K] (k : K) : List (K × V) → Option V
 | [] => none
 | (a, v) :: l => if k = a then some v else mget k l
def mput {K V : Type} [DecidableEq K] (k : K) (v : V) : List (K × V) → List (K × V)
 | [] => [(k, v)]
 | (a, w) :: l => if k = a then (k, v) :: l else (a, w) :: mput k v l
section
variable {K V : Type} [DecidableEq K] {n : Nat} {eK : K → List Cell} {eV : V → List Cell}
theorem getM_map (hn : ∀ k, (eK k).length = n) (he : ∀ a b, kEq (eK a) (eK b) = decide (a = b)) (k : K) : ∀ l : List (K × V), getM n (eK k) (l.map fun x => eK x.1 ++ eV x.2) = (mget k l).map eV
 | [] => rfl
 | (a, v) :: l => by
  simp only [List.map_cons, getM, mget, List.take_left' (hn a), List.drop_left' (hn a), he]
  by_cases h : k = a
  ·simp [h]
  ·simp [h, getM_map hn he k l]
theorem putM_map (hn : ∀ k, (eK k).length = n) (he : ∀ a b, kEq (eK a) (eK b) = decide (a = b)) (k : K) (v : V) : ∀ l : List (K × V), putM n (eK k) (eV v) (l.map fun x => eK x.1 ++ eV x.2) = (mput k v l).map fun x => eK x.1 ++ eV x.2
 | [] => rfl
 | (a, w) :: l => by
  simp only [List.map_cons, putM, mput, List.take_left' (hn a), he]
  by_cases h : k = a
  ·simp [h]
  ·simp [h, putM_map hn he k v l]
end
@[simp] theorem kEq_arC_app {n : Nat} {k k' : IntKind} {a b : Arr n} {s t : List Cell} : kEq (arC k a ++ s) (arC k' b ++ t) = (decide (a = b) && kEq s t) := by
 have h : ∀ {l m : List Int}, l.length = m.length → kEq (ints k l ++ s) (ints k' m ++ t) = ((l == m) && kEq s t) := by
  intro l
  induction l with
  | nil => intro m h; cases m with
   | nil => simp [ints]
   | cons y m => simp at h
  | cons x l ih => intro m h; cases m with
   | nil => simp at h
   | cons y m =>
    have := ih (m := m) (by simpa using h)
    simp only [ints] at this
    simp only [ints, List.map_cons, List.cons_append, kEq, kEq1, this, List.cons_beq_cons, Bool.and_assoc]
 unfold arC
 rw [h (by rw [a.hl, b.hl])]
 have e : (a.l == b.l) = decide (a = b) := by
  cases a; cases b
  rw [Bool.eq_iff_iff]
  simp
 rw [e]
@[simp] theorem kEq_arC {n : Nat} {k k' : IntKind} {a b : Arr n} : kEq (arC k a) (arC k' b) = decide (a = b) := by
 have := kEq_arC_app (k := k) (k' := k') (a := a) (b := b) (s := []) (t := [])
 simpa [kEq] using this
@[simp] theorem kKind_arC_app {n : Nat} {k : IntKind} {a b : Arr n} {s t : List Cell} : kKind (arC k a ++ s) (arC k b ++ t) = kKind s t := by
 have h : ∀ {l m : List Int}, l.length = m.length → kKind (ints k l ++ s) (ints k m ++ t) = kKind s t := by
  intro l
  induction l with
  | nil => intro m h; cases m with
   | nil => simp [ints]
   | cons y m => simp at h
  | cons x l ih => intro m h; cases m with
   | nil => simp at h
   | cons y m =>
    have := ih (m := m) (by simpa using h)
    simp only [ints] at this
    simp [ints, kKind, kKind1, this]
 unfold arC
 exact h (by rw [a.hl, b.hl])
@[simp] theorem kKind_arC {n : Nat} {k : IntKind} {a b : Arr n} : kKind (arC k a) (arC k b) = true := by
 have := kKind_arC_app (k := k) (a := a) (b := b) (s := []) (t := [])
 simpa [kKind] using this
@[simp] theorem arC_isI {n : Nat} {k : IntKind} {a : Arr n} : (arC k a).all Cell.isI = true := by simp [arC, ints, Cell.isI]
/-! texts -/
def strOf (l : List Int) : ByteArray := ⟨(l.map fun n => UInt8.ofNat n.toNat).toArray⟩
def bytesS (s : ByteArray) : List Int := s.data.toList.map fun b => (b.toNat : Int)
@[simp] theorem bytesOf_ints (l : List Int) : bytesOf (intsR .u8 l) = some (strOf l) := by
 have : bytesL (intsR .u8 l) = some (l.map fun n => UInt8.ofNat n.toNat) := by
  induction l with
  | nil => rfl
  | cons x l ih => simp only [intsR, List.map_cons] at *; simp [bytesL, byteOf, ih]
 simp [bytesOf, this, strOf]
@[simp] theorem bytes_rows (s : ByteArray) : (s.data.toList.map fun b => [Cell.v (.int .u8 (b.toNat : Int))]) = intsR .u8 (bytesS s) := by simp [intsR, bytesS]
@[simp] theorem elsOf_slice (bx : Boxes) (o : Own) (els : List (List Cell)) : elsOf bx (.slice o els) = some els := rfl
@[simp] theorem stringEq (a b : ByteArray) : pureOf (Op.stringOp .eql a b) = some (.bool (decide (a = b))) := by
 have : (a == b) = decide (a = b) := by
  rw [Bool.eq_iff_iff, MapKept.bytes_beq]
  simp
 show some (Value.bool (a.toList == b.toList)) = _
 rw [← beq_toListBytes, this]
@[simp] theorem stringNe (a b : ByteArray) : pureOf (Op.stringOp .neq a b) = some (.bool (!decide (a = b))) := by
 have : (a == b) = decide (a = b) := by
  rw [Bool.eq_iff_iff, MapKept.bytes_beq]
  simp
 show some (Value.bool (!(a.toList == b.toList))) = _
 rw [← beq_toListBytes, this]
end Go.Av
end
section
namespace Go.Lc
open Go.RowKit
open Go.Av
set_option maxRecDepth 100000
set_option linter.unusedSimpArgs false
set_option linter.unusedVariables false
abbrev Tapi_OutPoint := (Arr 32) × Int
noncomputable def Lcodec_extend (a0 : (List Int)) (a1 : (List Int)) : Option ((List Int)) :=
 (chk (0 ≤ IntKind.i64.wrap ((a0.length : Int) + (a1.length : Int)) ∧ IntKind.i64.wrap ((a0.length : Int) + (a1.length : Int)) ≤ 140737488355328)).bind fun _ => (chk (a0.length ≤ 140737488355328)).bind fun _ => (chk (a0.length + a1.length ≤ 140737488355328)).bind fun _ => some (a0 ++ a1)
noncomputable def Lcodec_lowest_k1 (p9 : (List Int)) : Option (List Int) :=
 some (p9)
noncomputable def Lcodec_lowest_s1 (a1 : Int) (a0 : Int) : (Int × (List Int)) → Option ((Int × (List Int)) ⊕ ((List Int)))
 | (p8, p9) => (if p8 < a1 then (chk (¬ (IntKind.i64.wrap (8 * p8) < 0))).bind fun _ => (inA (p9.length) (p8)).bind fun j13 => some (.inl (IntKind.i64.wrap (p8 + 1), (p9).set j13 (IntKind.u8.wrap ((a0).fdiv (2 ^ (min (IntKind.i64.wrap (8 * p8)).toNat 64)))))) else (Lcodec_lowest_k1 p9).map Sum.inr)
noncomputable def Lcodec_lowest (a0 : Int) (a1 : Int) : Option ((List Int)) :=
 (chk (0 ≤ a1 ∧ a1 ≤ 140737488355328)).bind fun _ => runLoop (Lcodec_lowest_s1 a1 a0) (0, List.replicate ((a1).toNat) 0)
noncomputable def Lcodec_AppendU32 (a0 : (List Int)) (a1 : Int) : Option ((List Int)) :=
 (Lcodec_lowest (IntKind.u64.wrap (a1)) 4).bind fun y1 => (Lcodec_extend a0 y1).bind fun y2 => some (y2)
noncomputable def Lcodec_AppendHash (a0 : (List Int)) (a1 : (Arr 32)) : Option ((List Int)) :=
 (Lcodec_extend a0 a1.l).bind fun y1 => some (y1)
noncomputable def Ltx_Point (a0 : Tapi_OutPoint) : Option ((List Int)) :=
 (Lcodec_AppendHash ([] : (List Int)) a0.1).bind fun y1 => (Lcodec_AppendU32 y1 a0.2).bind fun y2 => some (y2)
noncomputable def Lref01_joined (a0 : (List Int)) (a1 : (List Int)) : Option ((List Int)) :=
 (chk (0 ≤ IntKind.i64.wrap ((a0.length : Int) + (a1.length : Int)) ∧ IntKind.i64.wrap ((a0.length : Int) + (a1.length : Int)) ≤ 140737488355328)).bind fun _ => (chk (a0.length ≤ 140737488355328)).bind fun _ => (chk (a0.length + a1.length ≤ 140737488355328)).bind fun _ => some (a0 ++ a1)
def OeS_I_u8 (x : (List Int)) : Prop := x.length ≤ maxLen ∧ ∀ a ∈ x, (0 ≤ a ∧ a ≤ 255)
end Go.Lc
end
section
namespace Go.Av
open Go.RowKit
set_option linter.unusedVariables false
/-! several contracts of one function -/
/-! arrays out of rows -/
theorem flat_ints {k : IntKind} (l : List Int) : (intsR k l).flatten = ints k l := by
 induction l with
 | nil => rfl
 | cons x l ih => simp only [intsR, ints, List.map_cons, List.flatten_cons] at *; rw [ih]; rfl
@[simp high] theorem flat_len_ints {k : IntKind} {l : List Int} : (intsR k l).flatten.length = l.length := by rw [flat_ints]; simp [ints]
def Arr.over {n : Nat} (a : Arr n) (l : List Int) : Arr n := ⟨l.take n ++ a.l.drop (min l.length n), by have := a.hl; simp; omega⟩
/-! numbers -/
@[simp] theorem sg_u8 : IntKind.u8.signed = false := rfl
@[simp] theorem mx_u8 : IntKind.u8.max = 255 := rfl
@[simp] theorem sg_u16 : IntKind.u16.signed = false := rfl
@[simp] theorem mx_u16 : IntKind.u16.max = 65535 := rfl
@[simp] theorem sg_u32 : IntKind.u32.signed = false := rfl
@[simp] theorem mx_u32 : IntKind.u32.max = 4294967295 := rfl
@[simp] theorem sg_u64 : IntKind.u64.signed = false := rfl
@[simp] theorem mx_u64 : IntKind.u64.max = 18446744073709551615 := rfl
@[simp] theorem sg_i8 : IntKind.i8.signed = true := rfl
@[simp] theorem sg_i16 : IntKind.i16.signed = true := rfl
@[simp] theorem sg_i32 : IntKind.i32.signed = true := rfl
@[simp] theorem sg_i64 : IntKind.i64.signed = true := rfl
theorem lift_som {α β : Type} {enc : α → List PV} (hi : ∀ a b, enc a = enc b → a = b) {g : α → Option β} {R : α → β → PV × List (List Cell)} {x : α} {y : β} (h : g x = some y) : lift enc (fun x => (g x).map (R x)) (enc x) = some (R x y) := by
 rw [lift_eq hi, h]; rfl
theorem mkI {P : Program} {tt : TT} {T : Tab} {G : Glob} {α β : Type} {enc : α → List PV} {g : α → Option β} {R : α → β → PV × List (List Cell)} (hm : P.follows .mixedOrders = true) (htt : ∀ t i, tt t = some i → tinfo P t = some i) (hT : ∀ f F, T f = some F → Impl P G (f % 1000000) F) {f : FuncId} {fn : Func} {c : Code}
  (hf : P.funcs[f]? = some fn) (hb : fn.body = some c) (hname : (fn.name == "runtime.NumGoroutine") = false) (w : ∀ x y, g x = some y → ∃ kp fl n, execFn tt T G kp fl n fn (enc x) = some (R x y)) : Impl P G f (lift enc fun x => (g x).map (R x)) :=
 impl_of hm htt hT hf hb hname fun ps r ho hF => by
  obtain ⟨x, rfl, h⟩ := lift_inv hF
  obtain ⟨y, hy, rfl⟩ := Option.map_eq_some_iff.1 h
  exact w x y hy
@[simp] theorem ba_beq (a b : ByteArray) : (a == b) = true ↔ a = b := by
 obtain ⟨a⟩ := a
 obtain ⟨b⟩ := b
 have : ((⟨a⟩ : ByteArray) == ⟨b⟩) = (a == b) := rfl
 rw [this]
 simp
@[simp] theorem intsR_tl {k : IntKind} {l : List Int} : intsR k l.tail = (intsR k l).tail := by simp [intsR]
/-! recursion -/
theorem impl_never {P : Program} {G : Glob} {f : FuncId} {fn : Func} {c : Code} {F : List PV → Option (PV × List (List Cell))} (hf : P.funcs[f]? = some fn) (hb : fn.body = some c) (hname : (fn.name == "runtime.NumGoroutine") = false) (hF : ∀ ps, F ps = none) : Impl P G f F :=
 fun S w ks hs ps vs r outs _ _ _ _ h => by rw [hF] at h; cases h
theorem never_lift {α β : Type} {enc : α → List PV} {g : α → Option β} {R : α → β → PV × List (List Cell)} (h : ∀ x, g x = none) : ∀ ps, lift enc (fun x => (g x).map (R x)) ps = none := by
 intro ps
 unfold lift
 split
 ·simp only [h]; rfl
 ·rfl
noncomputable def fixN {α : Type} (g : Nat → Option α) : Option α := by
 classical
 exact if h : ∃ n, (g n).isSome = true then g (Classical.choose h) else none
theorem fixN_some {α : Type} {g : Nat → Option α} {y : α} (h : fixN g = some y) : ∃ n, g n = some y := by
 unfold fixN at h
 split at h
 ·exact ⟨_, h⟩
 ·cases h
theorem fixN_of {α : Type} {g : Nat → Option α} {y : α} (h : ∀ n x, g n = some x → x = y) (hn : ∃ n, g n = some y) : fixN g = some y := by
 obtain ⟨n, hn⟩ := hn
 have hx : ∃ n, (g n).isSome = true := ⟨n, by rw [hn]; rfl⟩
 unfold fixN
 rw [dif_pos hx]
 obtain ⟨x, hx'⟩ := Option.isSome_iff_exists.1 (Classical.choose_spec hx)
 rw [hx', h _ _ hx']
theorem impl_fix {P : Program} {G : Glob} {f : FuncId} {α β : Type} {enc : α → List PV} {g : Nat → α → Option β} {R : α → β → PV × List (List Cell)} (h : ∀ n, Impl P G f (lift enc fun x => (g n x).map (R x))) : Impl P G f (lift enc fun x => (fixN fun n => g n x).map (R x)) := by
 intro S w ks hs ps vs r outs a1 a2 a3 a4 hF
 unfold lift at hF
 split at hF
 ·rename_i he
  obtain ⟨y, hy, hr⟩ := Option.map_eq_some_iff.1 hF
  obtain ⟨n, hn⟩ := fixN_some hy
  refine h n S w ks hs ps vs r outs a1 a2 a3 a4 ?_
  unfold lift
  rw [dif_pos he]
  simp only [hn]
  simpa using hr
 ·cases hF
/-! normal forms -/
theorem pq : (∀ {id : Nat} {Q : AE → ASt → Prop} {s : ASt} {i : Nat}, outOf id Q (.exit i) s = if i = id then Q .normal s else Q (.exit i) s) ∧ (∀ {id : Nat} {Q : AE → ASt → Prop} {s : ASt}, outOf id Q .normal s = Q .normal s) ∧ (∀ {id : Nat} {Q : AE → ASt → Prop} {s : ASt}, outOf id Q .ret s = Q .ret s) ∧
  (∀ {K : ASt → Prop} {Q : AE → ASt → Prop} {s : ASt}, thenQ K Q .normal s = K s) ∧ (∀ {K : ASt → Prop} {Q : AE → ASt → Prop} {s : ASt} {i : Nat}, thenQ K Q (.exit i) s = Q (.exit i) s) ∧ (∀ {K : ASt → Prop} {Q : AE → ASt → Prop} {s : ASt}, thenQ K Q .ret s = Q .ret s) ∧
  (∀ {σ ρ : Type} {kq : Kp} {H : σ → ASt} {Q : AE → ASt → Prop} {r : ρ} {s : σ}, QL kq H Q r (.inl s) = thenQ (fun st => forget kq st = H s) fun _ _ => False) ∧ (∀ {σ ρ : Type} {kq : Kp} {H : σ → ASt} {Q : AE → ASt → Prop} {r r' : ρ}, QL kq H Q r (.inr r') = thenQ (fun _ => False) fun e st => r' = r → Q e st) ∧
  (∀ {a b : Prop}, (if True then a else b) = a) ∧ (∀ {a b : Prop}, (if False then a else b) = b) :=
 ⟨rfl, rfl, rfl, rfl, rfl, rfl, rfl, rfl, by simp, by simp⟩
theorem nf : (∀ {k : IntKind}, intsR k [] = []) ∧ (∀ {k : IntKind} {x : Int} {l : List Int}, intsR k (x :: l) = [.v (.int k x)] :: intsR k l) ∧ (∀ {k : IntKind} {l m : List Int}, intsR k (l ++ m) = intsR k l ++ intsR k m) ∧ (∀ {k : IntKind} {l : List Int} {n : Nat}, intsR k (l.take n) = (intsR k l).take n) ∧
  (∀ {k : IntKind} {l : List Int} {n : Nat}, intsR k (l.drop n) = (intsR k l).drop n) ∧ (∀ {k : IntKind} {l : List Int} {n : Nat} {x : Int}, intsR k (l.set n x) = (intsR k l).set n [.v (.int k x)]) ∧ (∀ {k : IntKind} {n : Nat} {x : Int}, intsR k (List.replicate n x) = List.replicate n [.v (.int k x)]) ∧
  (∀ {α β : Type} {f : α → β}, List.map f [] = []) ∧ (∀ {α β : Type} {f : α → β} {a : α} {l : List α}, List.map f (a :: l) = f a :: List.map f l) ∧ (∀ {α β : Type} {f : α → β} {l m : List α}, List.map f (l ++ m) = List.map f l ++ List.map f m) ∧ (∀ {α β : Type} {f : α → β} {l : List α} {n : Nat}, List.map f (l.take n) = (List.map f l).take n) ∧
  (∀ {α β : Type} {f : α → β} {l : List α} {n : Nat}, List.map f (l.drop n) = (List.map f l).drop n) ∧ (∀ {α β : Type} {f : α → β} {l : List α} {n : Nat} {x : α}, List.map f (l.set n x) = (List.map f l).set n (f x)) ∧ (∀ {α β : Type} {f : α → β} {n : Nat} {x : α}, List.map f (List.replicate n x) = List.replicate n (f x)) ∧
  (∀ {α : Type} {l : List α}, [] ++ l = l) ∧ (∀ {α : Type} {x : α} {l m : List α}, x :: l ++ m = x :: (l ++ m)) ∧ (∀ {α : Type} {l m n : List α}, l ++ m ++ n = l ++ (m ++ n)) :=
 ⟨intsR_nil, intsR_cons, intsR_app, intsR_tk, intsR_dr, intsR_st, intsR_rep, List.map_nil, List.map_cons, List.map_append, List.map_take, List.map_drop, List.map_set, List.map_replicate, List.nil_append _, List.cons_append, List.append_assoc _ _ _⟩
theorem bs {α β : Type} {o : Option α} {f : α → Option β} {y : β} (h : o.bind f = some y) : ∃ x, o = some x ∧ f x = some y := Option.bind_eq_some_iff.1 h
theorem ms {α β : Type} {o : Option α} {f : α → β} {y : β} (h : o.map f = some y) : ∃ x, o = some x ∧ f x = y := Option.map_eq_some_iff.1 h
theorem chunk_lent {e n : Nat} {L : List (List Cell)} (h : ∀ l ∈ L, l.length = e) (hn : L.length = n) : chunk e n L.flatten = L := by
 subst hn
 exact chunk_flatten h
theorem chunk_ints1 {k : IntKind} {n : Nat} {l : List Int} (h : l.length = n) : chunk 1 n (intsR k l).flatten = intsR k l :=
 chunk_lent (fun x hx => intsR_all x hx) (by simpa [intsR] using h)
/-- a function of one number whose contract is known -/
theorem impl_int {P : Program} {G : Glob} {f : FuncId} {fn : Func} {k k' : IntKind} {g : Int → Int} {ok : Int → Prop} (hfn : P.funcs[f]? = some fn) (hb : fn.body.isNone = false) (hnm : (fn.name == "runtime.NumGoroutine") = false)
  (F : List PV → Option (PV × List (List Cell))) (hF : ∀ ps r, F ps = some r → ∃ x, ok x ∧ ps = [.one (.v (.int k x))] ∧ r = (.one (.v (.int k' (g x))), []))
  (h : ∀ x w, ok x → Calls P f #[.int k x] w fun e w' => e = .returned (.int k' (g x)) ∧ w' = w) : Impl P G f F := by
 refine Impl.mk ⟨fn, hfn, hb, hnm⟩ ?_
 intro S w ks hh ps vs r outs hg hs ha hk hFr
 obtain ⟨x, hx, rfl, hr⟩ := hF ps _ hFr
 injection hr with hr1 hr2
 subst hr1 hr2
 cases ha with
 | one ha1 ha =>
  cases ha
  cases ha1 with
  | pure ha1 =>
   cases ha1 with
   | v _ h1 h2 =>
    refine (h x w hx).mono ?_
    rintro ee w' ⟨rfl, rfl⟩
    exact ⟨_, S, _, _, rfl, .base (.one (.pure (.v _ (by rfl) (by simp)))), .skip (by simp) (by simp) .nil, by simp [blksOf], Keeps.refl _ _ _, fun _ _ h => h, fun _ _ h => .inl h, hs⟩
@[simp] theorem pureL_flat {L : List (List Cell)} : pureL L.flatten = pureLL L := List.all_flatten
@[simp] theorem hasSlL_flat {L : List (List Cell)} : hasSlL L.flatten = L.any hasSlL := List.any_flatten
@[simp] theorem intsR_hasSl {k : IntKind} {l : List Int} : (intsR k l).any hasSlL = false := by simp [intsR, hasSlL, Cell.hasSl, List.any_map]
/-- a part of a list set to one value -/
def clr {α : Type} (l : List α) (i n : Nat) (z : α) : List α := l.take i ++ (List.replicate (min n (l.length - i)) z ++ l.drop (i + n))
@[simp] theorem clr_length {α : Type} {l : List α} {i n : Nat} {z : α} : (clr l i n z).length = l.length := by simp [clr]; omega
@[simp] theorem take_clr {α : Type} {l : List α} {i n : Nat} {z : α} : (clr l i n z).take i = l.take i := by
 unfold clr
 rcases Nat.le_total i l.length with h | h
 ·rw [List.take_append_of_le_length (by simp [h]), List.take_take, Nat.min_self]
 ·rw [List.take_of_length_le h, show min n (l.length - i) = 0 by omega, List.drop_of_length_le (by omega)]
  simp [List.take_of_length_le h]
@[simp] theorem take_clr_ints {k : IntKind} {l : List Int} {i n : Nat} {z : Int} : List.take i (intsR k (clr l i n z)) = List.take i (intsR k l) := by
 rw [← intsR_tk, take_clr, intsR_tk]
theorem clr_ints {k : IntKind} {l : List Int} {i n : Nat} (h : i + n ≤ l.length) : List.take i (intsR k l) ++ (List.replicate n [.v (.int k 0)] ++ List.drop (i + n) (intsR k l)) = intsR k (clr l i n 0) := by
 simp [clr, show min n (l.length - i) = n by omega]
end Go.Av
end
section
namespace Go.Lc
open Go.RowKit
open Go.Av
set_option maxRecDepth 100000
set_option linter.unusedSimpArgs false
set_option linter.unusedVariables false
end Go.Lc
end
section
namespace Go.Lc
open Go.RowKit
open Go.Av
set_option maxRecDepth 100000
set_option linter.unusedSimpArgs false
set_option linter.unusedVariables false
end Go.Lc
end
