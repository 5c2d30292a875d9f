import Derived.Test.YtjdoijdjeapekaaAvP3
import Derived.WalkSpells
import Derived.MapKept
import Derived.Laws.StructEq
import Derived.Lib.BitFns
section
namespace Go.Av
open Go.RowKit
set_option linter.unusedVariables false

/-! runs with enough fuel -/
section
variable {tt : TT} {T : Tab} {G : Glob} {kp : Keep} {st st0 st1 : ASt} {a b c d : Code} {Q Q' : AE→ASt→Prop}
def EndE (tt : TT) (T : Tab) (G : Glob) (kp : Keep) (c : Code) (st : ASt) (Q : AE→ASt→Prop) : Prop:=∃ n0 e s,(∀ n,n0≤n→exec tt T G kp n c st = some (e,s))∧Q e s
theorem ee_seq (h : EndE tt T G kp a st (thenQ (fun s=>EndE tt T G kp b s Q) Q)) : EndE tt T G kp (.seq a b) st Q:=by
 obtain ⟨n0,e,s,h1,h2⟩:=h;cases e with
 | normal =>
  obtain ⟨n1,e',s',h3,h4⟩:=h2;exact ⟨max n0 n1,e',s',fun n hn=>by simp [exec,h1 n (by omega),h3 n (by omega)],h4⟩
 | exit id=>exact ⟨n0,_,_,fun n hn=>by simp [exec,h1 n hn],h2⟩
 | ret=>exact ⟨n0,_,_,fun n hn=>by simp [exec,h1 n hn],h2⟩
theorem ee_reg {id : Nat} {ops : Array Oper} (hc : c = .region id ops false) (h : runL tt T G ops.toList ops.toList st = some st1) (hq : Q .normal st1) (hj : (kp (id + 1000000)).ks.isEmpty = true:=by rfl) : EndE tt T G kp c st Q:=⟨0,_,_,fun n _=>by subst hc; simp [exec,joinSt,hj,h],hq⟩
theorem ee_draw {id : Nat} {ops : Array Oper} {fs : List Foot} (hc : c = .region id ops true) (h : runU tt T G ops.toList ops.toList st = some (st1,fs)) (hd : drawOk ops.toList fs = true) (hq : Q .normal st1) (hj : (kp (id + 1000000)).ks.isEmpty = true:=by rfl) : EndE tt T G kp c st Q:=⟨0,_,_,fun n _=>by subst hc; simp [exec,joinSt,hj,h,hd],hq⟩
theorem ee_seq_reg {id : Nat} {ops : Array Oper} (hc : c = .region id ops false) (h : runL tt T G ops.toList ops.toList st = some st1) (hq : EndE tt T G kp b st1 Q) (hj : (kp (id + 1000000)).ks.isEmpty = true:=by rfl) : EndE tt T G kp (.seq c b) st Q:=ee_seq (ee_reg hc h hq hj)
theorem ee_seq_draw {id : Nat} {ops : Array Oper} {fs : List Foot} (hc : c = .region id ops true) (h : runU tt T G ops.toList ops.toList st = some (st1,fs)) (hd : drawOk ops.toList fs = true) (hq : EndE tt T G kp b st1 Q) (hj : (kp (id + 1000000)).ks.isEmpty = true:=by rfl) : EndE tt T G kp (.seq c b) st Q:=ee_seq (ee_draw hc h hd hq hj)
theorem ee_skip (h : Q .normal st) : EndE tt T G kp .skip st Q:=⟨0,_,_,fun _ _=>rfl,h⟩
theorem ee_ret (h : Q .ret st) : EndE tt T G kp .ret st Q:=⟨0,_,_,fun _ _=>rfl,h⟩
theorem ee_exit {id : Nat} (h : Q (.exit id) st) : EndE tt T G kp (.exit id) st Q:=⟨0,_,_,fun _ _=>rfl,h⟩
theorem ee_seq_skip (h : EndE tt T G kp b st Q) : EndE tt T G kp (.seq .skip b) st Q:=ee_seq (ee_skip h)
theorem ee_seq_ret (h : Q .ret st) : EndE tt T G kp (.seq .ret b) st Q:=ee_seq (ee_ret h)
theorem ee_seq_exit {id : Nat} (h : Q (.exit id) st) : EndE tt T G kp (.seq (.exit id) b) st Q:=ee_seq (ee_exit h)
theorem ee_assoc (h : EndE tt T G kp (.seq a (.seq b d)) st Q) : EndE tt T G kp (.seq (.seq a b) d) st Q:=by
 obtain ⟨n0,e,s,h1,h2⟩:=h;refine ⟨n0,e,s,fun n hn=>?_,h2⟩;rw [← h1 n hn];simp only [exec];cases exec tt T G kp n a st with
 | none=>rfl
 | some x=>obtain ⟨e,s⟩:=x; cases e <;> rfl
theorem ee_condT {x : Operand} (h : rd G st.get x = some (bV true)) (h1 : EndE tt T G kp a st Q) : EndE tt T G kp (.cond x a b) st Q:=by
 unfold bV at h;obtain ⟨n0,e,s,h3,h4⟩:=h1; exact ⟨n0,e,s,fun n hn=>by simp only [exec,h,h3 n hn,if_true],h4⟩
theorem ee_condF {x : Operand} (h : rd G st.get x = some (bV false)) (h1 : EndE tt T G kp b st Q) : EndE tt T G kp (.cond x a b) st Q:=by
 unfold bV at h;obtain ⟨n0,e,s,h3,h4⟩:=h1; exact ⟨n0,e,s,fun n hn=>by simp only [exec,h,h3 n hn,Bool.false_eq_true,if_false],h4⟩
theorem ee_seq_condT {x : Operand} (h : rd G st.get x = some (bV true)) (h1 : EndE tt T G kp (.seq a d) st Q) : EndE tt T G kp (.seq (.cond x a b) d) st Q:=by
 unfold bV at h;obtain ⟨n0,e,s,h3,h4⟩:=h1; exact ⟨n0,e,s,fun n hn=>by rw [← h3 n hn]; simp only [exec,h,if_true],h4⟩
theorem ee_seq_condF {x : Operand} (h : rd G st.get x = some (bV false)) (h1 : EndE tt T G kp (.seq b d) st Q) : EndE tt T G kp (.seq (.cond x a b) d) st Q:=by
 unfold bV at h;obtain ⟨n0,e,s,h3,h4⟩:=h1; exact ⟨n0,e,s,fun n hn=>by rw [← h3 n hn]; simp only [exec,h,Bool.false_eq_true,if_false],h4⟩
theorem ee_block {id : Nat} (h : EndE tt T G kp c st (outOf id Q)) : EndE tt T G kp (.block id c) st Q:=by
 obtain ⟨n0,e,s,h1,h2⟩:=h;cases e with
 | normal=>exact ⟨n0,.normal,s,fun n hn=>by simp [exec,h1 n hn],h2⟩
 | ret=>exact ⟨n0,.ret,s,fun n hn=>by simp [exec,h1 n hn],h2⟩
 | exit id' =>
  simp only [outOf] at h2;split at h2
  ·rename_i hid; exact ⟨n0,.normal,s,fun n hn=>by simp [exec,h1 n hn,hid],h2⟩
  ·rename_i hid; exact ⟨n0,.exit id',s,fun n hn=>by simp [exec,h1 n hn,hid],h2⟩
theorem ee_seq_block {id : Nat} (h : EndE tt T G kp c st (outOf id (thenQ (fun s=>EndE tt T G kp d s Q) Q))) : EndE tt T G kp (.seq (.block id c) d) st Q:=ee_seq (ee_block h)

/-! joins: what is behind them is walked once -/
theorem exec_jn {n : Nat} {st st' : ASt} : ∀ {c : Code} {key : Nat},firstJ c = some key→(kp key).ks.isEmpty = false→forget (kp key) st = forget (kp key) st'→exec tt T G kp n c st = exec tt T G kp n c st' := by
 intro c;induction c with
 | region id ops dr =>
  intro key hc ha hf;simp only [firstJ,Option.some.injEq] at hc;subst hc;simp only [exec,joinSt,ha,Bool.false_eq_true,if_false,hf]
 | seq a b iha ihb =>
  intro key hc ha hf;simp only [firstJ] at hc;simp only [exec,iha hc ha hf]
 | block id c ih =>
  intro key hc ha hf;simp only [firstJ] at hc;simp only [exec,ih hc ha hf]
 | loop c ih =>
  intro key hc ha hf;simp only [firstJ,Option.some.injEq] at hc;subst hc;cases n with
  | zero=>rfl
  | succ n=>simp only [exec,iter,hf]
 | _=>intro key hc; simp [firstJ] at hc
theorem ee_join {key : Nat} {kq : Kp} {H : ASt} (hc : firstJ c = some key) (hk : kp key = kq) (ha : kq.ks.isEmpty = false) (hf : forget kq st = forget kq H) (h : EndE tt T G kp c H Q) : EndE tt T G kp c st Q:=by
 subst hk;obtain ⟨n0,e,s,h1,h2⟩:=h;exact ⟨n0,e,s,fun n hn=>by rw [exec_jn hc ha hf]; exact h1 n hn,h2⟩
/-- what is behind is shown first -/
theorem ee_seq_J {σ ρ : Type} {l rhs : Option ρ} (_ : l = rhs) (H : σ→ASt) (f : σ→Option ρ) (hJ : ∀ s,f s = rhs→EndE tt T G kp b (H s) Q) (hm : (∀ s,f s = rhs→EndE tt T G kp b (H s) Q)→EndE tt T G kp (.seq a b) st Q) : EndE tt T G kp (.seq a b) st Q:=hm hJ
theorem ee_J {σ ρ : Type} {l rhs : Option ρ} (_ : l = rhs) (X : AE) (H : σ→ASt) (f : σ→Option ρ) (hJ : ∀ s,f s = rhs→Q X (H s)) (hm : (∀ s,f s = rhs→Q X (H s))→EndE tt T G kp c st Q) : EndE tt T G kp c st Q:=hm hJ
/-- a region ahead of which something is forgotten -/
theorem ee_regJ {id : Nat} {ops : Array Oper} {kq : Kp} (hc : c = .region id ops false) (hk : kp (id + 1000000) = kq) (hf : joinSt kq st = st0) (h : runL tt T G ops.toList ops.toList st0 = some st1) (hq : Q .normal st1) : EndE tt T G kp c st Q:=⟨0,_,_,fun n _=>by subst hc; simp [exec,hk,hf,h],hq⟩
theorem ee_seq_regJ {id : Nat} {ops : Array Oper} {kq : Kp} (hc : c = .region id ops false) (hk : kp (id + 1000000) = kq) (hf : joinSt kq st = st0) (h : runL tt T G ops.toList ops.toList st0 = some st1) (hq : EndE tt T G kp b st1 Q) : EndE tt T G kp (.seq c b) st Q:=ee_seq (ee_regJ hc hk hf h hq)
/-! loops -/
def iterS {σ ρ : Type} (step : σ→Option (σ ⊕ ρ)) : Nat→σ→Option ρ
 | 0,_=>none
 | m + 1,s=>match step s with | some (.inl s')=>iterS step m s' | some (.inr r)=>some r | none=>none
theorem iterS_mono {σ ρ : Type} {step : σ→Option (σ ⊕ ρ)} : ∀ {m : Nat} {s : σ} {r : ρ},iterS step m s = some r→∀ k,iterS step (m + k) s = some r
 | 0,_,_,h=>by simp [iterS] at h
 | m + 1,s,r,h=>by
  intro k;rw [show m + 1 + k = (m + k) + 1 by omega];simp only [iterS] at h ⊢;split at h
  ·rename_i s' hs
   exact iterS_mono h k
  ·exact h
  ·simp at h
noncomputable def runLoop {σ ρ : Type} (step : σ→Option (σ ⊕ ρ)) (s : σ) : Option ρ:=by
 classical
 exact if h : ∃ m r,iterS step m s = some r then some (Classical.choose (Classical.choose_spec h)) else none
theorem runLoop_some {σ ρ : Type} {step : σ→Option (σ ⊕ ρ)} {s : σ} {r : ρ} : runLoop step s = some r↔∃ m,iterS step m s = some r:=by
 unfold runLoop;constructor
 ·intro h
  split at h
  ·rename_i hx
   have:=Classical.choose_spec (Classical.choose_spec hx);injection h with h;rw [h] at this;exact ⟨_,this⟩
  ·simp at h
 ·rintro ⟨m,h⟩
  have hx : ∃ m r,iterS step m s = some r:=⟨m,r,h⟩
  rw [dif_pos hx];have h2:=Classical.choose_spec (Classical.choose_spec hx);have h3:=iterS_mono h (Classical.choose hx);have h4:=iterS_mono h2 m;rw [Nat.add_comm,h3] at h4;exact h4.symm
theorem runLoop_eq {σ ρ : Type} (step : σ→Option (σ ⊕ ρ)) (s : σ) : runLoop step s = (match step s with | some (.inl s')=>runLoop step s' | some (.inr r)=>some r | none=>none):=by
 apply Option.ext
 intro r;rw [runLoop_some];constructor
 ·rintro ⟨m,h⟩
  cases m with
  | zero=>simp [iterS] at h
  | succ m =>
   simp only [iterS] at h;split at h
   ·exact runLoop_some.2 ⟨m,h⟩
   ·exact h
   ·simp at h
 ·intro h
  split at h
  ·rename_i s' hs
   obtain ⟨m,hm⟩:=runLoop_some.1 h;exact ⟨m + 1,by simp [iterS,hs,hm]⟩
  ·rename_i r' hs
   exact ⟨1,by simpa [iterS,hs] using h⟩
  ·simp at h
/-- what the end of a loop's body has to show -/
def QL {σ ρ : Type} (kq : Kp) (H : σ→ASt) (Q : AE→ASt→Prop) (r : ρ) : σ ⊕ ρ→AE→ASt→Prop
 | .inl s'=>thenQ (fun st=>forget kq st = H s') fun _ _=>False
 | .inr r'=>thenQ (fun _=>False) fun e st=>r' = r→Q e st
theorem it_sim {σ ρ : Type} {kq : Kp} {step : σ→Option (σ ⊕ ρ)} {H : σ→ASt} {r : ρ}
  (hb : ∀ s x,step s = some x→EndE tt T G kp c (H s) (QL kq H Q r x)) :
  ∀ (m : Nat) (s : σ) (st : ASt),iterS step m s = some r→forget kq st = H s→∃ n0 e s',(∀ M,n0≤M→∀ n,n0≤n→iter kq (exec tt T G kp n c) M st = some (e,s'))∧Q e s' := by
 intro m;induction m with
 | zero=>intro s st h; simp [iterS] at h
 | succ m ih =>
  intro s st h hf;simp only [iterS] at h;split at h
  ·rename_i s' hs
   obtain ⟨n1,e,st',h1,h2⟩:=hb s _ hs;cases e with
   | normal =>
    obtain ⟨n2,e2,st2,h3,h4⟩:=ih s' st' h h2;refine ⟨max n1 n2 + 1,e2,st2,fun M hM n hn=>?_,h4⟩;obtain ⟨M,rfl⟩ : ∃ M',M = M' + 1:=⟨M - 1,by omega⟩
    simp only [iter,hf,h1 n (by omega)];exact h3 M (by omega) n (by omega)
   | exit id=>exact h2.elim
   | ret=>exact h2.elim
  ·rename_i r' hs
   injection h with h;subst h;obtain ⟨n1,e,st',h1,h2⟩:=hb s _ hs;cases e with
   | normal=>exact h2.elim
   | exit id =>
    refine ⟨n1 + 1,_,_,fun M hM n hn=>?_,h2 rfl⟩;obtain ⟨M,rfl⟩ : ∃ M',M = M' + 1:=⟨M - 1,by omega⟩
    simp only [iter,hf,h1 n (by omega)]
   | ret =>
    refine ⟨n1 + 1,_,_,fun M hM n hn=>?_,h2 rfl⟩;obtain ⟨M,rfl⟩ : ∃ M',M = M' + 1:=⟨M - 1,by omega⟩
    simp only [iter,hf,h1 n (by omega)]
  ·simp at h
theorem ee_loop {σ ρ : Type} {kq : Kp} {step : σ→Option (σ ⊕ ρ)} {H : σ→ASt} (hk : kp (firstId c) = kq) {s : σ} {r : ρ}
  (hr : runLoop step s = some r) (hf : forget kq st = H s)
  (hb : ∀ s x,step s = some x→EndE tt T G kp c (H s) (QL kq H Q r x)) : EndE tt T G kp (.loop c) st Q:=by
 obtain ⟨m,hm⟩:=runLoop_some.1 hr;obtain ⟨n0,e,s',h1,h2⟩:=it_sim hb m s st hm hf;refine ⟨n0,e,s',fun n hn=>?_,h2⟩;simp only [exec];rw [hk];exact h1 n hn n hn
theorem fnE {fn : Func} {args : List PV} {w : Bool} {r : PV×List (List Cell)} (hb : fn.body = some c) (hc : ioChk args = true) (h : EndE tt T G kp c ⟨(ioIn 0 0 args).1++List.replicate (fn.ntmps - args.length) .skip,ioBx args⟩ (FinQ tt w fn args r)) : ∃ kp fl n,execFn tt T G kp fl n fn args = some r:=by
 obtain ⟨n0,e,s,h1,h2⟩:=h;exact ⟨kp,w,n0,fn_ends hb hc ⟨e,s,h1 n0 (Nat.le_refl _),h2⟩⟩
end
end Go.Av
end
section
namespace Go.Av
open Go.RowKit
set_option linter.unusedVariables false
/-! steps that may fail -/
def idx {α : Type} (l : List α) (i : Int) : Option α:=if 0≤i then l[i.toNat]? else none
theorem idx_some {α : Type} {l : List α} {i : Int} {x : α} (h : idx l i = some x) : 0≤i∧l[i.toNat]? = some x:=by
 unfold idx at h;split at h
 ·exact ⟨by assumption,h⟩
 ·simp at h
def inA (n : Nat) (i : Int) : Option Nat:=if 0≤i∧i < n then some i.toNat else none
theorem inA_some {n : Nat} {i : Int} {j : Nat} (h : inA n i = some j) : 0≤i∧i.toNat = j∧j < n:=by
 unfold inA at h;split at h
 ·simp at h
  omega
 ·simp at h
def chk (p : Prop) [Decidable p] : Option Unit:=if p then some () else none
theorem chk_some {p : Prop} [Decidable p] {u : Unit} (h : chk p = some u) : p:=by
 unfold chk at h;split at h
 ·assumption
 ·simp at h
theorem chk_pos {p : Prop} [Decidable p] (h : p) : chk p = some ():=by simp [chk,h]
/-! encoders -/
@[simp] theorem intsR_iff {k : IntKind} {l m : List Int} : intsR k l = intsR k m↔l = m:=⟨intsR_inj,fun h=>by rw [h]⟩
@[simp] theorem arC_iff {n : Nat} {k : IntKind} {a b : Arr n} : arC k a = arC k b↔a = b:=⟨arC_inj,fun h=>by rw [h]⟩
@[simp] theorem arC_app {n : Nat} {k : IntKind} {a b : Arr n} {s t : List Cell} : arC k a++s = arC k b++t↔a = b∧s = t:=by
 constructor
 ·intro h
  obtain ⟨h1,h2⟩:=List.append_inj h (by simp);exact ⟨arC_inj h1,h2⟩
 ·rintro ⟨rfl,rfl⟩; rfl
theorem map_iff {α : Type} {f : α→List Cell} (hf : ∀ a b,f a = f b→a = b) {l m : List α} : l.map f = m.map f↔l = m:=List.map_inj_right hf
@[simp] theorem mapA_iff {n : Nat} {k : IntKind} {l m : List (Arr n)} : List.map (arC k) l = List.map (arC k) m↔l = m:=map_iff fun _ _ h=>arC_inj h
@[simp] theorem map_arC_len {n : Nat} {k : IntKind} {l : List (Arr n)} : ∀ x∈List.map (arC k) l,x.length = n:=by simp
@[simp] theorem intsR_nil {k : IntKind} : intsR k [] = []:=rfl
@[simp] theorem intsR_cons {k : IntKind} {x : Int} {l : List Int} : intsR k (x :: l) = [.v (.int k x)] :: intsR k l:=rfl
@[simp] theorem intsR_app {k : IntKind} {l m : List Int} : intsR k (l++m) = intsR k l++intsR k m:=intsR_append.symm
@[simp] theorem intsR_tk {k : IntKind} {l : List Int} {n : Nat} : intsR k (l.take n) = (intsR k l).take n:=(intsR_take n).symm
@[simp] theorem intsR_dr {k : IntKind} {l : List Int} {n : Nat} : intsR k (l.drop n) = (intsR k l).drop n:=(intsR_drop n).symm
@[simp] theorem intsR_st {k : IntKind} {l : List Int} {n : Nat} {x : Int} : intsR k (l.set n x) = (intsR k l).set n [.v (.int k x)]:=(intsR_set n x).symm
@[simp] theorem intsR_rep {k : IntKind} {n : Nat} {x : Int} : intsR k (List.replicate n x) = List.replicate n [.v (.int k x)]:=by simp [intsR]
@[simp] theorem intsR_allT {k : IntKind} {m : List Int} : (∀ l,l∈intsR k m→l.length = 1) = True:=eq_true fun l h=>intsR_all l h
@[simp] theorem isSl_v (x : Value) : Cell.isSl (.v x) = false:=rfl
@[simp] theorem isSl_no (els : List (List Cell)) : Cell.isSl (.slice .no els) = true:=rfl
@[simp] theorem isSl_nil (els : List (List Cell)) : Cell.isSl (.slice .nil els) = false:=rfl
@[simp] theorem isSl_ms (a b c d e : Nat) : Cell.isSl (.ms a b c d e) = false:=rfl
@[simp] theorem isSl_fv (a b c d e : Nat) : Cell.isSl (.fv a b c d e) = false:=rfl
@[simp] theorem isSl_own (e : Nat) (els : List (List Cell)) : Cell.isSl (.own e els) = false:=rfl
@[simp] theorem intsR_any {k : IntKind} {l : List Int} : (intsR k l).any (fun l=>l.any Cell.isSl) = false:=by simp [intsR,List.any_map]
@[simp] theorem arC_any {n : Nat} {k : IntKind} {a : Arr n} : (arC k a).any Cell.isSl = false:=by simp [arC,ints]
@[simp] theorem arCs_any {n : Nat} {k : IntKind} {l : List (Arr n)} : (List.map (arC k) l).any (fun l=>l.any Cell.isSl) = false:=by simp [List.any_map]
@[simp] theorem fixLL_rep {bx : Boxes} {ns : List Nat} {n : Nat} {l : List Cell} : fixLL bx ns (List.replicate n l) = List.replicate n (fixL bx ns l):=by simp [fixLL]
@[simp] theorem fixLL_set {bx : Boxes} {ns : List Nat} {els : List (List Cell)} {n : Nat} {l : List Cell} : fixLL bx ns (els.set n l) = (fixLL bx ns els).set n (fixL bx ns l):=by simp [fixLL,List.map_set]
@[simp] theorem fixLL_take {bx : Boxes} {ns : List Nat} {els : List (List Cell)} {n : Nat} : fixLL bx ns (els.take n) = (fixLL bx ns els).take n:=by simp [fixLL]
@[simp] theorem fixLL_drop {bx : Boxes} {ns : List Nat} {els : List (List Cell)} {n : Nat} : fixLL bx ns (els.drop n) = (fixLL bx ns els).drop n:=by simp [fixLL]
@[simp] theorem pureLL_rep {n : Nat} {l : List Cell} (h : pureL l = true) : pureLL (List.replicate n l) = true:=by
 simp only [pureLL,List.all_eq_true,List.mem_replicate];rintro x ⟨_,rfl⟩
 exact h
theorem pureLL_sub {a b : List (List Cell)} (h : ∀ x∈a,x∈b) (hb : pureLL b = true) : pureLL a = true:=by
 simp only [pureLL,List.all_eq_true] at *;exact fun x hx=>hb x (h x hx)
@[simp] theorem pureLL_take {n : Nat} {els : List (List Cell)} (h : pureLL els = true) : pureLL (els.take n) = true:=pureLL_sub (fun _=>List.mem_of_mem_take) h
@[simp] theorem pureLL_drop {n : Nat} {els : List (List Cell)} (h : pureLL els = true) : pureLL (els.drop n) = true:=pureLL_sub (fun _=>List.mem_of_mem_drop) h
@[simp] theorem pureLL_set {n : Nat} {els : List (List Cell)} {l : List Cell} (h : pureLL els = true) (hl : pureL l = true) : pureLL (els.set n l) = true:=by
 simp only [pureLL,List.all_eq_true] at *;intro x hx;rcases List.mem_or_eq_of_mem_set hx with h1 | rfl
 ·exact h x h1
 ·exact hl
@[simp] theorem intsR_getE {k : IntKind} {l : List Int} {i : Nat} (h : i < (intsR k l).length) : (intsR k l)[i] = [.v (.int k (l[i]'(by simpa using h)))]:=by simp [intsR]
theorem getE_of {α : Type} {l : List α} {i : Nat} {x : α} (h : l[i]? = some x) : ∀ h' : i < l.length,l[i] = x:=fun h'=>by
 rw [List.getElem?_eq_getElem h'] at h;injection h
@[simp] theorem bits_u64 : IntKind.u64.bits = 64:=rfl
@[simp] theorem bits_u32 : IntKind.u32.bits = 32:=rfl
@[simp] theorem bits_u16 : IntKind.u16.bits = 16:=rfl
@[simp] theorem bits_u8 : IntKind.u8.bits = 8:=rfl
@[simp] theorem bits_i64 : IntKind.i64.bits = 64:=rfl
@[simp] theorem bits_i32 : IntKind.i32.bits = 32:=rfl
@[simp] theorem maxLen_eq : maxLen = 9223372036854775807:=rfl
@[simp] theorem chunk_arC {n m : Nat} {k : IntKind} {a : Arr n} (h : m≤n) : chunk 1 m (arC k a) = (intsR k a.l).take m:=by
 unfold arC;rw [chunk_ints (by rw [a.hl]; exact h),intsR_take]
@[simp] theorem chunk_arC_drop {n m o : Nat} {k : IntKind} {a : Arr n} (h : o + m≤n) : chunk 1 m ((arC k a).drop o) = ((intsR k a.l).drop o).take m:=by
 unfold arC;rw [ints_drop,chunk_ints (by have:=a.hl; simp; omega),intsR_drop,intsR_take]
@[simp] theorem arr_len {n : Nat} {a : Arr n} : a.l.length = n:=a.hl
@[simp] theorem cellsEq_arC {n : Nat} {k : IntKind} {a b : Arr n} {s t : List Cell} : cellsEq (arC k a++s) (arC k b++t) = (match cellsEq s t with | some c=>some (decide (a = b) && c) | none=>none):=by
 have h : ∀ {l m : List Int},l.length = m.length→cellsEq (ints k l++s) (ints k m++t) = (match cellsEq s t with | some c=>some ((l == m) && c) | none=>none):=by
  intro l;induction l with
  | nil=>intro m h; cases m with
   | nil=>simp [ints]; cases cellsEq s t <;> rfl
   | cons y m=>simp at h
  | cons x l ih=>intro m h; cases m with
   | nil=>simp at h
   | cons y m =>
    have:=ih (m:=m) (by simpa using h);simp only [ints] at this;simp only [ints,List.map_cons,List.cons_append,cellsEq,cellEq,if_true,this];cases cellsEq s t with
    | none=>rfl
    | some c=>simp [List.cons_beq_cons,Bool.and_assoc]
 unfold arC;rw [h (by rw [a.hl,b.hl])]
 have e : (a.l == b.l) = decide (a = b):=by
  cases a; cases b
  rw [Bool.eq_iff_iff];simp
 rw [e]
@[simp] theorem put_arC_app {n : Nat} {k k' : IntKind} (a b : Arr n) (cs ds : List Cell) : putCells (arC k a++cs) 0 (arC k' b++ds) = arC k' b++putCells cs 0 ds:=by
 unfold putCells;simp only [List.take_zero,List.nil_append,Nat.zero_add,List.length_append,arC_len,List.drop_append,List.append_assoc];rw [List.drop_of_length_le (by simp)];simp
theorem all_map_len {α : Type} {f : α→List Cell} {s : Nat} (h : ∀ a,(f a).length = s) (m : List α) : (∀ l,l∈List.map f m→l.length = s) = True:=eq_true fun l hl=>by
 obtain ⟨a,_,rfl⟩:=List.mem_map.1 hl;exact h a
@[simp↓] theorem arC_all {n : Nat} {k : IntKind} (m : List (Arr n)) : (∀ l,l∈List.map (arC k) m→l.length = n) = True:=all_map_len (by simp) m
/-- what is frozen behind a call -/
def frS (b : Bool) (bx : Boxes) : List Nat→List (Nat×Box)
 | []=>[]
 | x :: l=>if b then frzL bx (x :: l) else []
@[simp] theorem frS_nil (b : Bool) (bx : Boxes) : frS b bx [] = []:=rfl
@[simp] theorem frS_false (bx : Boxes) (l : List Nat) : frS false bx l = []:=by cases l <;> rfl
@[simp] theorem frS_true (bx : Boxes) (l : List Nat) : frS true bx l = frzL bx l:=by cases l <;> rfl
theorem callOp_eq (T : Tab) (d : Option Nat) (f : FuncId) (ps : List PV) (bx : Boxes) : callOp T d f ps bx = (match look T f,argPs bx (T.own (d.getD 90000)) ps with
 | some F,some qs =>
  match F qs with
  | some (r,outs) =>
   match ioOut bx (ioPs (T.own (d.getD 90000)) ps) outs,landR bx (d.getD 90000) r with
   | some (bo,br),some (p,bn) =>
    if nodupB (ioPs (T.own (d.getD 90000)) ps++(br++bn).map (·.1)) && (lentPs bx (T.own (d.getD 90000)) ps).all (fun x=>!(ioPs (T.own (d.getD 90000)) ps++hdPs bx (T.own (d.getD 90000)) ps++(br++bn).map (·.1)).contains x) && (bn.isEmpty || d.isSome) && frzOk ((br++bn).map (·.1)) && nodupB (ioPs (T.own (d.getD 90000)) ps++hdPs bx (T.own (d.getD 90000)) ps) && (!(hasSlR r || outs.any hasSlL) || frzOk (lentPs bx (T.own (d.getD 90000)) ps)) then
     some ⟨putD d p,frS (hasSlR r || outs.any hasSlL) bx (lentPs bx (T.own (d.getD 90000)) ps)++bo++(br++bn++killL bx ((hdPs bx (T.own (d.getD 90000)) ps).filter fun x=>!((br++bn).map (·.1)).contains x)),lentPs bx (T.own (d.getD 90000)) ps++ioPs (T.own (d.getD 90000)) ps++hdPs bx (T.own (d.getD 90000)) ps++(br++bn).map (·.1)⟩
    else none
   | _,_=>none
  | none=>none
 | _,_=>none):=by
 have h : ∀ (b : Bool) l,(if b then frzL bx l else []) = frS b bx l:=by
  intro b l;cases b <;> simp [-frzL]
 unfold callOp;simp only [h];rfl
attribute [simp] callOp_eq
end Go.Av
end
section
namespace Go.Av
open Go.RowKit
set_option linter.unusedVariables false
theorem run_append_zero {P : Program} (w : World) (t ty e : TypeId) (i : TypeInfo) (ht : P.underlying t = some (.slice e)) (hi : P.info? e = some i) (b x : Option Addr) (n c c' : Nat) (hc : n≤c) :
  (Builtin.append_ #[t,t] ty #[.slice b n c,.slice x 0 c']).run P w = .ok (.slice b n c) w:=by
 have hf : ∀ y : Option Addr,(Builtin.firstCells i.size 0 (.slice y 0 c')).run P w = .ok #[] w:=by
  intro y;cases y with
  | none=>simp [Builtin.firstCells]
  | some y=>simp [Builtin.firstCells,loadCells,loadCellsFrom]
 cases b <;> simp [Builtin.append_,run_underlying ht,sizeOf,typeInfo,hi,Builtin.lenOf,hc,hf,storeCells]
/-- copies of slices -/
theorem clone_impl {P : Program} {G : Glob} {f : FuncId} {fn : Func} {α : Type} {e t N : Nat} {rows : List α→List (List Cell)} (hfn : P.funcs[f]? = some fn) (hb : fn.body.isNone = false) (hnm : (fn.name == "runtime.NumGoroutine") = false)
  (F : List PV→Option (PV×List (List Cell))) (hF : ∀ ps r,F ps = some r→∃ l : List α,ps = [.one (.slice .no (rows l))]∧r = (.one (.own e (rows l)),[]))
  (hnil : rows [] = [])
  (h1 : ∀ l,l≠[]→∀ r,F [.one (.slice .no (rows l))] = some r→Impl P G f fun ps=>by classical exact if ps = [.one (.slice .no (rows l))] then some r else none)
  (h2 : ∀ (x : Option Addr) (c : Nat) (w : World),Calls P f #[.slice x 0 c] w fun ee w'=>∃ y,ee = .returned (.slice y 0 0)∧(w' = w∨w' = w.alloc (.cells #[] t))) : Impl P G f F:=by
 refine ⟨⟨fn,hfn,hb,hnm⟩,?_⟩;intro S w ks hh ps vs r outs hg hs ha hk hFr;obtain ⟨l,rfl,hr⟩:=hF ps _ hFr;by_cases hl : l = []
 ·subst hl
  rw [hnil] at ha hr;injection hr with hr1 hr2;subst hr1 hr2;cases ha with
  | one ha1 ha =>
   cases ha
   cases ha1 with
   | pure ha1 =>
   obtain ⟨x,c,hv,_⟩:=ha1.len;simp at hv
   subst hv;refine (h2 x c w).mono ?_;rintro ee w' ⟨y,rfl,rfl | rfl⟩
   ·exact ⟨_,S,_,_,rfl,.base (.one (.none e y)),.skip (by simp) (by simp) .nil,by simp [blksOf],Keeps.refl _ _ _,fun _ _ h=>h,fun _ _ h=>.inl h,hs⟩
   ·have hh : (w.alloc (.cells #[] t)).heap = w.heap.push (.cells #[] t):=rfl
    refine ⟨_,S,_,_,rfl,.base (.one (.none e y)),.skip (by simp) (by simp) .nil,by simp [blksOf],⟨rfl,rfl,rfl,by rw [hh]; simp,fun b hb _=>(by rw [hh]; simp [Array.getElem?_push,Nat.ne_of_lt hb]),fun b arr T _ ha=>⟨arr,T,(by rw [hh,Array.getElem?_push]; have hb:=heap_lt ha; simp [Nat.ne_of_lt hb,ha]),Nat.le_refl _⟩⟩,fun _ _ h=>h,fun _ _ h=>.inl h,fun b o h=>by have:=hs b o h; rw [hh]; simp; omega⟩
 ·exact (h1 l hl _ hFr).2 S w ks hh _ vs r outs hg hs ha hk (by simp)
@[simp] theorem arC_lit {n : Nat} {k : IntKind} {l : List Int} (h : l.length = n) : arC k (⟨l,h⟩ : Arr n) = ints k l:=rfl
@[simp] theorem ints_nil {k : IntKind} : ints k [] = []:=rfl
@[simp] theorem ints_cons {k : IntKind} {x : Int} {l : List Int} : ints k (x :: l) = .v (.int k x) :: ints k l:=rfl
end Go.Av
end
section
namespace Go.Av
open Go.RowKit
set_option linter.unusedVariables false
/-! maps as lists -/
def mget {K V : Type} [DecidableEq K] (k : K) : List (K×V)→Option V
 | []=>none
 | (a,v) :: l=>if k = a then some v else mget k l
def mput {K V : Type} [DecidableEq K] (k : K) (v : V) : List (K×V)→List (K×V)
 | []=>[(k,v)]
 | (a,w) :: l=>if k = a then (k,v) :: l else (a,w) :: mput k v l
section
variable {K V : Type} [DecidableEq K] {n : Nat} {eK : K→List Cell} {eV : V→List Cell}
theorem getM_map (hn : ∀ k,(eK k).length = n) (he : ∀ a b,kEq (eK a) (eK b) = decide (a = b)) (k : K) : ∀ l : List (K×V),getM n (eK k) (l.map fun x=>eK x.1++eV x.2) = (mget k l).map eV
 | []=>rfl
 | (a,v) :: l=>by
  simp only [List.map_cons,getM,mget,List.take_left' (hn a),List.drop_left' (hn a),he];by_cases h : k = a
  ·simp [h]
  ·simp [h,getM_map hn he k l]
theorem putM_map (hn : ∀ k,(eK k).length = n) (he : ∀ a b,kEq (eK a) (eK b) = decide (a = b)) (k : K) (v : V) : ∀ l : List (K×V),putM n (eK k) (eV v) (l.map fun x=>eK x.1++eV x.2) = (mput k v l).map fun x=>eK x.1++eV x.2
 | []=>rfl
 | (a,w) :: l=>by
  simp only [List.map_cons,putM,mput,List.take_left' (hn a),he];by_cases h : k = a
  ·simp [h]
  ·simp [h,putM_map hn he k v l]
end
@[simp] theorem kEq_arC_app {n : Nat} {k k' : IntKind} {a b : Arr n} {s t : List Cell} : kEq (arC k a++s) (arC k' b++t) = (decide (a = b) && kEq s t):=by
 have h : ∀ {l m : List Int},l.length = m.length→kEq (ints k l++s) (ints k' m++t) = ((l == m) && kEq s t):=by
  intro l;induction l with
  | nil=>intro m h; cases m with
   | nil=>simp [ints]
   | cons y m=>simp at h
  | cons x l ih=>intro m h; cases m with
   | nil=>simp at h
   | cons y m =>
    have:=ih (m:=m) (by simpa using h);simp only [ints] at this;simp only [ints,List.map_cons,List.cons_append,kEq,kEq1,this,List.cons_beq_cons,Bool.and_assoc]
 unfold arC;rw [h (by rw [a.hl,b.hl])]
 have e : (a.l == b.l) = decide (a = b):=by
  cases a; cases b
  rw [Bool.eq_iff_iff];simp
 rw [e]
@[simp] theorem kEq_arC {n : Nat} {k k' : IntKind} {a b : Arr n} : kEq (arC k a) (arC k' b) = decide (a = b):=by
 have:=kEq_arC_app (k:=k) (k' := k') (a:=a) (b:=b) (s:=[]) (t:=[]);simpa [kEq] using this
@[simp] theorem kKind_arC_app {n : Nat} {k : IntKind} {a b : Arr n} {s t : List Cell} : kKind (arC k a++s) (arC k b++t) = kKind s t:=by
 have h : ∀ {l m : List Int},l.length = m.length→kKind (ints k l++s) (ints k m++t) = kKind s t:=by
  intro l;induction l with
  | nil=>intro m h; cases m with
   | nil=>simp [ints]
   | cons y m=>simp at h
  | cons x l ih=>intro m h; cases m with
   | nil=>simp at h
   | cons y m =>
    have:=ih (m:=m) (by simpa using h);simp only [ints] at this;simp [ints,kKind,kKind1,this]
 unfold arC;exact h (by rw [a.hl,b.hl])
@[simp] theorem kKind_arC {n : Nat} {k : IntKind} {a b : Arr n} : kKind (arC k a) (arC k b) = true:=by
 have:=kKind_arC_app (k:=k) (a:=a) (b:=b) (s:=[]) (t:=[]);simpa [kKind] using this
@[simp] theorem arC_isI {n : Nat} {k : IntKind} {a : Arr n} : (arC k a).all Cell.isI = true:=by simp [arC,ints,Cell.isI]
/-! texts -/
def strOf (l : List Int) : ByteArray:=⟨(l.map fun n=>UInt8.ofNat n.toNat).toArray⟩
def bytesS (s : ByteArray) : List Int:=s.data.toList.map fun b=>(b.toNat : Int)
@[simp] theorem bytesOf_ints (l : List Int) : bytesOf (intsR .u8 l) = some (strOf l):=by
 have : bytesL (intsR .u8 l) = some (l.map fun n=>UInt8.ofNat n.toNat):=by
  induction l with
  | nil=>rfl
  | cons x l ih=>simp only [intsR,List.map_cons] at *; simp [bytesL,byteOf,ih]
 simp [bytesOf,this,strOf]
@[simp] theorem bytes_rows (s : ByteArray) : (s.data.toList.map fun b=>[Cell.v (.int .u8 (b.toNat : Int))]) = intsR .u8 (bytesS s):=by simp [intsR,bytesS]
@[simp] theorem elsOf_slice (bx : Boxes) (o : Own) (els : List (List Cell)) : elsOf bx (.slice o els) = some els:=rfl
@[simp] theorem stringEq (a b : ByteArray) : pureOf (Op.stringOp .eql a b) = some (.bool (decide (a = b))):=by
 have : (a == b) = decide (a = b):=by
  rw [Bool.eq_iff_iff,MapKept.bytes_beq];simp
 show some (Value.bool (a.toList == b.toList)) = _
 rw [← beq_toListBytes,this]
@[simp] theorem stringNe (a b : ByteArray) : pureOf (Op.stringOp .neq a b) = some (.bool (!decide (a = b))):=by
 have : (a == b) = decide (a = b):=by
  rw [Bool.eq_iff_iff,MapKept.bytes_beq];simp
 show some (Value.bool (!(a.toList == b.toList))) = _
 rw [← beq_toListBytes,this]
end Go.Av
end
section
namespace Go.Lc
open Go.RowKit
open Go.Av
set_option maxRecDepth 100000
set_option linter.unusedSimpArgs false
set_option linter.unusedVariables false
abbrev Tapi_OutPoint:=(Arr 32)×Int
abbrev Tapi_Output:=Int×(List Int)
abbrev Tapi_Coin:=Tapi_OutPoint×Tapi_Output×Int×Bool
abbrev Tapi_Spendable:=Tapi_Coin×Int
abbrev Tlightclientmill_Deck:=(List Int)×Int
abbrev Tapi_Input:=Tapi_OutPoint×Int×(List (List Int))
abbrev Tapi_Tx:=Int×(List Tapi_Input)×(List Tapi_Output)×Int
abbrev Tapi_Plan:=Tapi_Tx×(List Tapi_Coin)×Int×Int
noncomputable def Lbuild_Fee (a0 : Int) (a1 : Int) : Option (Int) :=
 (if (((a0 < 0∨80000 < a0)∨a1 < 0)∨1048576 < a1) then some (0) else some (IntKind.i64.wrap ((IntKind.i64.wrap ((IntKind.i64.wrap (a1 * a0)) + 999)).tdiv 1000)))
noncomputable def Lbuild_InputWeight (a0 : Tapi_Spendable) : Option (Int) :=
 some (IntKind.i64.wrap (161 + a0.2))
noncomputable def Llaw34_sane : Option (Bool) :=
 (Lbuild_Fee 1001 1000).bind fun y1=>((if y1 = 1001 then (Lbuild_Fee 1 1).bind fun y2=>some (decide (y2 = 1)) else some (false))).bind fun z3=>((if (y1 = 1001∧z3 = true) then (Lbuild_InputWeight (((zA 32,0),(0,([] : (List Int))),0,false),4)).bind fun y4=>some (decide (y4 = 165)) else some (false))).bind fun z5=>some (((decide (y1 = 1001) && z3) && z5))
noncomputable def Lmill_New (a0 : (List Int)) : Option (Tlightclientmill_Deck) :=
 some ((a0,0))
noncomputable def Lmade_Script (a0 : Int) : Option ((List Int)) :=
 some ([1,1,IntKind.u8.wrap (1 + ((a0).tmod 6)),5])
noncomputable def Lmill_Mod_k1 (p2 : Int) : Option Int :=
 some (p2)
noncomputable def Lmill_Mod (a0 : Int) (a1 : Int) : Option (Int) :=
 (chk (a1≠0)).bind fun _=>(if (a0).tmod a1 < 0 then Lmill_Mod_k1 (IntKind.i64.wrap (((a0).tmod a1) + a1)) else Lmill_Mod_k1 ((a0).tmod a1))
noncomputable def Lmill_Deck_Left (a0 : Tlightclientmill_Deck) : Option (Bool×Tlightclientmill_Deck) :=
 some ((decide (a0.2 < (a0.1.length : Int)),a0))
noncomputable def Lmill_Deck_Next (a0 : Tlightclientmill_Deck) (a1 : Int) : Option (Int×Tlightclientmill_Deck) :=
 (Lmill_Deck_Left a0).bind fun y1=>(if ¬ (y1.1 = true) then some ((0,y1.2)) else (idx (y1.2.1) (IntKind.i64.wrap ((IntKind.i64.wrap (y1.2.2 + 1)) - 1))).bind fun x2=>(Lmill_Mod x2 a1).bind fun y3=>some ((y3,(y1.2.1,IntKind.i64.wrap (y1.2.2 + 1)))))
noncomputable def Lmill_Deck_Range (a0 : Tlightclientmill_Deck) (a1 : Int) (a2 : Int) : Option (Int×Tlightclientmill_Deck) :=
 (Lmill_Deck_Next a0 (IntKind.i64.wrap ((IntKind.i64.wrap (a2 - a1)) + 1))).bind fun y1=>some ((IntKind.i64.wrap (a1 + y1.1),y1.2))
noncomputable def Lmill_Spendables_k1 (p20 : (List Tapi_Spendable)) (p19 : Tlightclientmill_Deck) : Option ((List Tapi_Spendable)×Tlightclientmill_Deck) :=
 some ((p20,p19))
noncomputable def Lmill_Spendables_s1 : (Int×Tlightclientmill_Deck×(List Tapi_Spendable))→Option ((Int×Tlightclientmill_Deck×(List Tapi_Spendable)) ⊕ ((List Tapi_Spendable)×Tlightclientmill_Deck))
 | (p18,p19,p20)=>(if 0 < p18 then (Lmill_Deck_Next p19 3).bind fun y28=>(Lmill_Deck_Next y28.2 4000).bind fun y29=>(Lmill_Deck_Next y29.2 6).bind fun y30=>(Lmade_Script (IntKind.u8.wrap (y30.1))).bind fun y31=>(Lmill_Deck_Range y30.2 1 5).bind fun y32=>(Lmill_Deck_Next y32.2 70).bind fun y33=>(chk (p20.length + 1≤1466015503701)).bind fun _=>some (.inl (IntKind.i64.wrap (p18 - 1),y33.2,p20++[((((zA 32).put 0 (IntKind.u8.wrap (p18)),IntKind.u32.wrap (y28.1)),(y29.1,y31),y32.1,false),y33.1)])) else (Lmill_Spendables_k1 p20 p19).map Sum.inr)
noncomputable def Lmill_Spendables (a0 : Tlightclientmill_Deck) (a1 : Int) : Option ((List Tapi_Spendable)×Tlightclientmill_Deck) :=
 (Lmill_Deck_Next a0 (IntKind.i64.wrap (a1 + 1))).bind fun y1=>runLoop (Lmill_Spendables_s1) (y1.1,y1.2,[])
noncomputable def Lslices_Clone_of__api_Input_api_Input (a0 : (List Tapi_Input)) : Option (List Tapi_Input) :=
 (chk (a0.length≤2199023255552)).bind fun _=>some (a0)
noncomputable def Lcodec_extend (a0 : (List Int)) (a1 : (List Int)) : Option ((List Int)) :=
 (chk (0≤IntKind.i64.wrap ((a0.length : Int) + (a1.length : Int))∧IntKind.i64.wrap ((a0.length : Int) + (a1.length : Int))≤140737488355328)).bind fun _=>(chk (a0.length≤140737488355328)).bind fun _=>(chk (a0.length + a1.length≤140737488355328)).bind fun _=>some (a0++a1)
noncomputable def Lcodec_lowest_k1 (p9 : (List Int)) : Option (List Int) :=
 some (p9)
noncomputable def Lcodec_lowest_s1 (a1 : Int) (a0 : Int) : (Int×(List Int))→Option ((Int×(List Int)) ⊕ ((List Int)))
 | (p8,p9)=>(if p8 < a1 then (chk (¬ (IntKind.i64.wrap (8 * p8) < 0))).bind fun _=>(inA (p9.length) (p8)).bind fun j13=>some (.inl (IntKind.i64.wrap (p8 + 1),(p9).set j13 (IntKind.u8.wrap ((a0).fdiv (2 ^ (min (IntKind.i64.wrap (8 * p8)).toNat 64)))))) else (Lcodec_lowest_k1 p9).map Sum.inr)
noncomputable def Lcodec_lowest (a0 : Int) (a1 : Int) : Option ((List Int)) :=
 (chk (0≤a1∧a1≤140737488355328)).bind fun _=>runLoop (Lcodec_lowest_s1 a1 a0) (0,List.replicate ((a1).toNat) 0)
noncomputable def Lcodec_AppendU32 (a0 : (List Int)) (a1 : Int) : Option ((List Int)) :=
 (Lcodec_lowest (IntKind.u64.wrap (a1)) 4).bind fun y1=>(Lcodec_extend a0 y1).bind fun y2=>some (y2)
noncomputable def Lcodec_AppendU64 (a0 : (List Int)) (a1 : Int) : Option ((List Int)) :=
 (Lcodec_lowest a1 8).bind fun y1=>(Lcodec_extend a0 y1).bind fun y2=>some (y2)
noncomputable def Lcodec_AppendU16 (a0 : (List Int)) (a1 : Int) : Option ((List Int)) :=
 (Lcodec_lowest (IntKind.u64.wrap (a1)) 2).bind fun y1=>(Lcodec_extend a0 y1).bind fun y2=>some (y2)
noncomputable def Lcodec_AppendSize (a0 : (List Int)) (a1 : Int) : Option ((List Int)) :=
 (if a1 < 253 then (Lcodec_extend a0 [IntKind.u8.wrap (a1)]).bind fun y1=>some (y1) else (if a1 < 65536 then (Lcodec_extend a0 [253]).bind fun y2=>(Lcodec_AppendU16 y2 (IntKind.u16.wrap (a1))).bind fun y3=>some (y3) else (if a1 < 4294967296 then (Lcodec_extend a0 [254]).bind fun y4=>(Lcodec_AppendU32 y4 (IntKind.u32.wrap (a1))).bind fun y5=>some (y5) else (Lcodec_extend a0 [255]).bind fun y6=>(Lcodec_AppendU64 y6 a1).bind fun y7=>some (y7))))
noncomputable def Lcodec_AppendHash (a0 : (List Int)) (a1 : (Arr 32)) : Option ((List Int)) :=
 (Lcodec_extend a0 a1.l).bind fun y1=>some (y1)
noncomputable def Ltx_Point (a0 : Tapi_OutPoint) : Option ((List Int)) :=
 (Lcodec_AppendHash ([] : (List Int)) a0.1).bind fun y1=>(Lcodec_AppendU32 y1 a0.2).bind fun y2=>some (y2)
noncomputable def Lcodec_AppendBytes (a0 : (List Int)) (a1 : (List Int)) : Option ((List Int)) :=
 (Lcodec_AppendSize a0 (IntKind.u64.wrap ((a1.length : Int)))).bind fun y1=>(Lcodec_extend y1 a1).bind fun y2=>some (y2)
noncomputable def Ltx_encode_k3 (p81 : (List Int)) : Option (List Int) :=
 some (p81)
noncomputable def Ltx_encode_k4 (p80 : Int) (p110 : (List Int)) : Option ((Int×(List Int)) ⊕ ((List Int))) :=
 some (.inl (IntKind.i64.wrap (p80 + 1),p110))
noncomputable def Ltx_encode_s4 (x98 : Tapi_Input) (p80 : Int) : (Int×(List Int))→Option ((Int×(List Int)) ⊕ ((Int×(List Int)) ⊕ ((List Int))))
 | (p109,p110)=>(if p109 < (x98.2.2.length : Int) then (idx (x98.2.2) (p109)).bind fun x114=>(Lcodec_AppendBytes ([] : (List Int)) x114).bind fun y115=>(chk (p110.length + y115.length≤140737488355328)).bind fun _=>some (.inl (IntKind.i64.wrap (p109 + 1),p110++y115)) else (Ltx_encode_k4 p80 p110).map Sum.inr)
noncomputable def Ltx_encode_s3 (a0 : Tapi_Tx) : (Int×(List Int))→Option ((Int×(List Int)) ⊕ ((List Int)))
 | (p80,p81)=>(if p80 < (a0.2.1.length : Int) then (idx (a0.2.1) (p80)).bind fun x98=>(Lcodec_AppendSize ([] : (List Int)) (IntKind.u64.wrap ((x98.2.2.length : Int)))).bind fun y99=>(chk (p81.length + y99.length≤140737488355328)).bind fun _=>runLoop (Ltx_encode_s4 x98 p80) (0,p81++y99) else (Ltx_encode_k3 p81).map Sum.inr)
noncomputable def Ltx_encode_k2 (a0 : Tapi_Tx) (p38 : (List Int)) (a1 : Bool) : Option (List Int) :=
 (Lcodec_AppendU32 ([] : (List Int)) a0.2.2.2).bind fun y44=>(chk (p38.length + y44.length≤140737488355328)).bind fun _=>(if ¬ (a1 = true) then some (p38++y44) else runLoop (Ltx_encode_s3 a0) (0,p38++y44))
noncomputable def Ltx_encode_s2 (a0 : Tapi_Tx) (a1 : Bool) : (Int×(List Int))→Option ((Int×(List Int)) ⊕ ((List Int)))
 | (p37,p38)=>(if p37 < (a0.2.2.1.length : Int) then (idx (a0.2.2.1) (p37)).bind fun x117=>(Lcodec_AppendU64 ([] : (List Int)) (IntKind.u64.wrap (x117.1))).bind fun y118=>(chk (p38.length + y118.length≤140737488355328)).bind fun _=>(Lcodec_AppendBytes ([] : (List Int)) x117.2).bind fun y120=>(chk (p38.length + y118.length + y120.length≤140737488355328)).bind fun _=>some (.inl (IntKind.i64.wrap (p37 + 1),p38++y118++y120)) else (Ltx_encode_k2 a0 p38 a1).map Sum.inr)
noncomputable def Ltx_encode_k1 (a0 : Tapi_Tx) (p17 : (List Int)) (a1 : Bool) : Option (List Int) :=
 (Lcodec_AppendSize ([] : (List Int)) (IntKind.u64.wrap ((a0.2.2.1.length : Int)))).bind fun y23=>(chk (p17.length + y23.length≤140737488355328)).bind fun _=>runLoop (Ltx_encode_s2 a0 a1) (0,p17++y23)
noncomputable def Ltx_encode_s1 (a0 : Tapi_Tx) (a1 : Bool) : (Int×(List Int))→Option ((Int×(List Int)) ⊕ ((List Int)))
 | (p16,p17)=>(if p16 < (a0.2.1.length : Int) then (idx (a0.2.1) (p16)).bind fun x122=>(Ltx_Point x122.1).bind fun y123=>(chk (p17.length + y123.length≤140737488355328)).bind fun _=>(Lcodec_AppendU32 ([] : (List Int)) x122.2.1).bind fun y125=>(chk (p17.length + y123.length + y125.length≤140737488355328)).bind fun _=>some (.inl (IntKind.i64.wrap (p16 + 1),p17++y123++y125)) else (Ltx_encode_k1 a0 p17 a1).map Sum.inr)
noncomputable def Ltx_encode (a0 : Tapi_Tx) (a1 : Bool) : Option ((List Int)) :=
 (Lcodec_AppendU32 ([] : (List Int)) a0.1).bind fun y1=>(Lcodec_AppendSize ([] : (List Int)) (IntKind.u64.wrap ((a0.2.1.length : Int)))).bind fun y2=>(chk (y1.length + y2.length≤140737488355328)).bind fun _=>runLoop (Ltx_encode_s1 a0 a1) (0,y1++y2)
noncomputable def Ltx_fits_k2 (a0 : Tapi_Tx) : Option Bool :=
 (Ltx_encode a0 true).bind fun y26=>some (decide ((y26.length : Int)≤20000))
noncomputable def Ltx_fits_k3 (p19 : Int) : Option ((Int) ⊕ (Bool)) :=
 some (.inl (IntKind.i64.wrap (p19 + 1)))
noncomputable def Ltx_fits_s3 (x27 : Tapi_Input) (p19 : Int) : Int→Option ((Int) ⊕ ((Int) ⊕ (Bool)))
 | p31=>(if p31 < (x27.2.2.length : Int) then (idx (x27.2.2) (p31)).bind fun x33=>(if 520 < (x33.length : Int) then some (.inr (.inr (false))) else some (.inl (IntKind.i64.wrap (p31 + 1)))) else (Ltx_fits_k3 p19).map Sum.inr)
noncomputable def Ltx_fits_s2 (a0 : Tapi_Tx) : Int→Option ((Int) ⊕ (Bool))
 | p19=>(if p19 < (a0.2.1.length : Int) then (idx (a0.2.1) (p19)).bind fun x27=>(if 32 < (x27.2.2.length : Int) then some (.inr (false)) else runLoop (Ltx_fits_s3 x27 p19) 0) else (Ltx_fits_k2 a0).map Sum.inr)
noncomputable def Ltx_fits_k1 (a0 : Tapi_Tx) : Option Bool :=
 runLoop (Ltx_fits_s2 a0) 0
noncomputable def Ltx_fits_s1 (a0 : Tapi_Tx) : Int→Option ((Int) ⊕ (Bool))
 | p4=>(if p4 < (a0.2.2.1.length : Int) then (idx (a0.2.2.1) (p4)).bind fun x34=>(if (x34.1 < 0∨520 < (x34.2.length : Int)) then some (.inr (false)) else some (.inl (IntKind.i64.wrap (p4 + 1)))) else (Ltx_fits_k1 a0).map Sum.inr)
noncomputable def Ltx_fits (a0 : Tapi_Tx) : Option (Bool) :=
 (if (64 < (a0.2.1.length : Int)∨64 < (a0.2.2.1.length : Int)) then some (false) else runLoop (Ltx_fits_s1 a0) 0)
noncomputable def Ltx_Weight (a0 : Tapi_Tx) : Option (Int) :=
 (Ltx_fits a0).bind fun y1=>(if ¬ (y1 = true) then some (0) else (Ltx_encode a0 false).bind fun y2=>(Ltx_encode a0 true).bind fun y3=>some (IntKind.i64.wrap ((IntKind.i64.wrap (3 * (y2.length : Int))) + (y3.length : Int))))
noncomputable def Lbuild_Weight_k2 (p17 : Int) : Option Int :=
 some (p17)
noncomputable def Lbuild_Weight_s2 (a1 : (List Tapi_Spendable)) : (Int×Int)→Option ((Int×Int) ⊕ (Int))
 | (p17,p18)=>(if p18 < (a1.length : Int) then (idx (a1) (p18)).bind fun x20=>some (.inl (IntKind.i64.wrap (p17 + x20.2),IntKind.i64.wrap (p18 + 1))) else (Lbuild_Weight_k2 p17).map Sum.inr)
noncomputable def Lbuild_Weight_k1 (a0 : Tapi_Tx) (p9 : (List Tapi_Input)) (a1 : (List Tapi_Spendable)) : Option Int :=
 (Ltx_Weight (a0.1,p9,a0.2.2.1,a0.2.2.2)).bind fun y12=>runLoop (Lbuild_Weight_s2 a1) (y12,0)
noncomputable def Lbuild_Weight_s1 (y1 : ((List Tapi_Input))) (a0 : Tapi_Tx) (a1 : (List Tapi_Spendable)) : (Int×(List Tapi_Input))→Option ((Int×(List Tapi_Input)) ⊕ (Int))
 | (p8,p9)=>(if p8 < (y1.length : Int) then (inA (p9.length) (p8)).bind fun j21=>((p9)[j21]?).bind fun x22=>some (.inl (IntKind.i64.wrap (p8 + 1),(p9).set j21 (x22.1,x22.2.1,([] : (List (List Int)))))) else (Lbuild_Weight_k1 a0 p9 a1).map Sum.inr)
noncomputable def Lbuild_Weight (a0 : Tapi_Tx) (a1 : (List Tapi_Spendable)) : Option (Int) :=
 (Lslices_Clone_of__api_Input_api_Input a0.2.1).bind fun y1=>runLoop (Lbuild_Weight_s1 y1 a0 a1) (0,y1)
noncomputable def Lref01_joined (a0 : (List Int)) (a1 : (List Int)) : Option ((List Int)) :=
 (chk (0≤IntKind.i64.wrap ((a0.length : Int) + (a1.length : Int))∧IntKind.i64.wrap ((a0.length : Int) + (a1.length : Int))≤140737488355328)).bind fun _=>(chk (a0.length≤140737488355328)).bind fun _=>(chk (a0.length + a1.length≤140737488355328)).bind fun _=>some (a0++a1)
noncomputable def Lref01_little_k1 (p9 : (List Int)) : Option (List Int) :=
 some (p9)
noncomputable def Lref01_little_s1 (a1 : Int) (a0 : Int) : (Int×(List Int))→Option ((Int×(List Int)) ⊕ ((List Int)))
 | (p8,p9)=>(if p8 < ((List.replicate ((a1).toNat) 0).length : Int) then (chk (¬ (IntKind.i64.wrap (8 * p8) < 0))).bind fun _=>(inA (p9.length) (p8)).bind fun j13=>some (.inl (IntKind.i64.wrap (p8 + 1),(p9).set j13 (IntKind.u8.wrap ((a0).fdiv (2 ^ (min (IntKind.i64.wrap (8 * p8)).toNat 64)))))) else (Lref01_little_k1 p9).map Sum.inr)
noncomputable def Lref01_little (a0 : Int) (a1 : Int) : Option ((List Int)) :=
 (chk (0≤a1∧a1≤140737488355328)).bind fun _=>runLoop (Lref01_little_s1 a1 a0) (0,List.replicate ((a1).toNat) 0)
noncomputable def Lref01_AppendU32 (a0 : (List Int)) (a1 : Int) : Option ((List Int)) :=
 (Lref01_little (IntKind.u64.wrap (a1)) 4).bind fun y1=>(Lref01_joined a0 y1).bind fun y2=>some (y2)
noncomputable def Lref01_AppendSize (a0 : (List Int)) (a1 : Int) : Option ((List Int)) :=
 (if a1 < 253 then (Lref01_little a1 1).bind fun y1=>(Lref01_joined a0 y1).bind fun y2=>some (y2) else (if a1 < 65536 then (Lref01_little a1 2).bind fun y3=>(Lref01_joined [253] y3).bind fun y4=>(Lref01_joined a0 y4).bind fun y5=>some (y5) else (if a1 < 4294967296 then (Lref01_little a1 4).bind fun y6=>(Lref01_joined [254] y6).bind fun y7=>(Lref01_joined a0 y7).bind fun y8=>some (y8) else (Lref01_little a1 8).bind fun y9=>(Lref01_joined [255] y9).bind fun y10=>(Lref01_joined a0 y10).bind fun y11=>some (y11))))
noncomputable def Lref01_AppendHash (a0 : (List Int)) (a1 : (Arr 32)) : Option ((List Int)) :=
 (Lref01_joined a0 a1.l).bind fun y1=>some (y1)
noncomputable def Lref09_Point (a0 : Tapi_OutPoint) : Option ((List Int)) :=
 (Lref01_AppendHash ([] : (List Int)) a0.1).bind fun y1=>(Lref01_AppendU32 y1 a0.2).bind fun y2=>some (y2)
noncomputable def Lref01_AppendBytes (a0 : (List Int)) (a1 : (List Int)) : Option ((List Int)) :=
 (Lref01_AppendSize a0 (IntKind.u64.wrap ((a1.length : Int)))).bind fun y1=>(Lref01_joined y1 a1).bind fun y2=>some (y2)
noncomputable def Lref01_AppendU64 (a0 : (List Int)) (a1 : Int) : Option ((List Int)) :=
 (Lref01_little a1 8).bind fun y1=>(Lref01_joined a0 y1).bind fun y2=>some (y2)
noncomputable def Lref09_Out (a0 : Tapi_Output) : Option ((List Int)) :=
 (Lref01_AppendU64 ([] : (List Int)) (IntKind.u64.wrap (a0.1))).bind fun y1=>(Lref01_AppendBytes y1 a0.2).bind fun y2=>some (y2)
noncomputable def Lref09_encode_k3 (p61 : (List Int)) : Option (List Int) :=
 some (p61)
noncomputable def Lref09_encode_k4 (p60 : Int) (p83 : (List Int)) : Option ((Int×(List Int)) ⊕ ((List Int))) :=
 some (.inl (IntKind.i64.wrap (p60 + 1),p83))
noncomputable def Lref09_encode_s4 (x74 : Tapi_Input) (p60 : Int) : (Int×(List Int))→Option ((Int×(List Int)) ⊕ ((Int×(List Int)) ⊕ ((List Int))))
 | (p82,p83)=>(if p82 < (x74.2.2.length : Int) then (idx (x74.2.2) (p82)).bind fun x86=>(Lref01_AppendBytes p83 x86).bind fun y87=>some (.inl (IntKind.i64.wrap (p82 + 1),y87)) else (Lref09_encode_k4 p60 p83).map Sum.inr)
noncomputable def Lref09_encode_s3 (a0 : Tapi_Tx) (a1 : Bool) : (Int×(List Int))→Option ((Int×(List Int)) ⊕ ((List Int)))
 | (p60,p61)=>(if p60 < (a0.2.1.length : Int) then (idx (a0.2.1) (p60)).bind fun x74=>(if ¬ (a1 = true) then (Lref09_encode_k3 p61).map Sum.inr else (Lref01_AppendSize p61 (IntKind.u64.wrap ((x74.2.2.length : Int)))).bind fun y75=>runLoop (Lref09_encode_s4 x74 p60) (0,y75)) else (Lref09_encode_k3 p61).map Sum.inr)
noncomputable def Lref09_encode_k2 (p29 : (List Int)) (a0 : Tapi_Tx) (a1 : Bool) : Option (List Int) :=
 (Lref01_AppendU32 p29 a0.2.2.2).bind fun y33=>runLoop (Lref09_encode_s3 a0 a1) (0,y33)
noncomputable def Lref09_encode_s2 (a0 : Tapi_Tx) (a1 : Bool) : (Int×(List Int))→Option ((Int×(List Int)) ⊕ ((List Int)))
 | (p28,p29)=>(if p28 < (a0.2.2.1.length : Int) then (idx (a0.2.2.1) (p28)).bind fun x88=>(Lref09_Out x88).bind fun y89=>(chk (p29.length + y89.length≤140737488355328)).bind fun _=>some (.inl (IntKind.i64.wrap (p28 + 1),p29++y89)) else (Lref09_encode_k2 p29 a0 a1).map Sum.inr)
noncomputable def Lref09_encode_k1 (p14 : (List Int)) (a0 : Tapi_Tx) (a1 : Bool) : Option (List Int) :=
 (Lref01_AppendSize p14 (IntKind.u64.wrap ((a0.2.2.1.length : Int)))).bind fun y19=>runLoop (Lref09_encode_s2 a0 a1) (0,y19)
noncomputable def Lref09_encode_s1 (a0 : Tapi_Tx) (a1 : Bool) : (Int×(List Int))→Option ((Int×(List Int)) ⊕ ((List Int)))
 | (p13,p14)=>(if p13 < (a0.2.1.length : Int) then (idx (a0.2.1) (p13)).bind fun x91=>(Lref09_Point x91.1).bind fun y92=>(chk (p14.length + y92.length≤140737488355328)).bind fun _=>(Lref01_AppendU32 (p14++y92) x91.2.1).bind fun y94=>some (.inl (IntKind.i64.wrap (p13 + 1),y94)) else (Lref09_encode_k1 p14 a0 a1).map Sum.inr)
noncomputable def Lref09_encode (a0 : Tapi_Tx) (a1 : Bool) : Option ((List Int)) :=
 (Lref01_AppendU32 ([] : (List Int)) a0.1).bind fun y1=>(Lref01_AppendSize y1 (IntKind.u64.wrap ((a0.2.1.length : Int)))).bind fun y2=>runLoop (Lref09_encode_s1 a0 a1) (0,y2)
noncomputable def Lref09_Fits_k2 (a0 : Tapi_Tx) : Option Bool :=
 (Lref09_encode a0 true).bind fun y26=>some (decide ((y26.length : Int)≤20000))
noncomputable def Lref09_Fits_k3 (p19 : Int) : Option ((Int) ⊕ (Bool)) :=
 some (.inl (IntKind.i64.wrap (p19 + 1)))
noncomputable def Lref09_Fits_s3 (x27 : Tapi_Input) (p19 : Int) : Int→Option ((Int) ⊕ ((Int) ⊕ (Bool)))
 | p31=>(if p31 < (x27.2.2.length : Int) then (idx (x27.2.2) (p31)).bind fun x33=>(if 520 < (x33.length : Int) then some (.inr (.inr (false))) else some (.inl (IntKind.i64.wrap (p31 + 1)))) else (Lref09_Fits_k3 p19).map Sum.inr)
noncomputable def Lref09_Fits_s2 (a0 : Tapi_Tx) : Int→Option ((Int) ⊕ (Bool))
 | p19=>(if p19 < (a0.2.1.length : Int) then (idx (a0.2.1) (p19)).bind fun x27=>(if 32 < (x27.2.2.length : Int) then some (.inr (false)) else runLoop (Lref09_Fits_s3 x27 p19) 0) else (Lref09_Fits_k2 a0).map Sum.inr)
noncomputable def Lref09_Fits_k1 (a0 : Tapi_Tx) : Option Bool :=
 runLoop (Lref09_Fits_s2 a0) 0
noncomputable def Lref09_Fits_s1 (a0 : Tapi_Tx) : Int→Option ((Int) ⊕ (Bool))
 | p4=>(if p4 < (a0.2.2.1.length : Int) then (idx (a0.2.2.1) (p4)).bind fun x34=>(if (x34.1 < 0∨520 < (x34.2.length : Int)) then some (.inr (false)) else some (.inl (IntKind.i64.wrap (p4 + 1)))) else (Lref09_Fits_k1 a0).map Sum.inr)
noncomputable def Lref09_Fits (a0 : Tapi_Tx) : Option (Bool) :=
 (if (64 < (a0.2.1.length : Int)∨64 < (a0.2.2.1.length : Int)) then some (false) else runLoop (Lref09_Fits_s1 a0) 0)
noncomputable def Ltx_null (a0 : Tapi_OutPoint) : Option (Bool) :=
 some ((decide (a0.1 = zA 32) && decide (a0.2 = 4294967295)))
noncomputable def Ltx_Coinbase (a0 : Tapi_Tx) : Option (Bool) :=
 ((if (a0.2.1.length : Int) = 1 then ((a0.2.1)[0]?).bind fun x1=>(Ltx_null x1.1).bind fun y2=>some (y2) else some (false))).bind fun z3=>some ((decide ((a0.2.1.length : Int) = 1) && z3))
noncomputable def Ltx_money_k1 : Option Bool :=
 some (true)
noncomputable def Ltx_money_s1 (a0 : (List Tapi_Output)) : (Int×Int)→Option ((Int×Int) ⊕ (Bool))
 | (p5,p6)=>(if p6 < (a0.length : Int) then (idx (a0) (p6)).bind fun x8=>(if IntKind.i64.wrap (2100000000000000 - p5) < x8.1 then some (.inr (false)) else some (.inl (IntKind.i64.wrap (p5 + x8.1),IntKind.i64.wrap (p6 + 1)))) else (Ltx_money_k1).map Sum.inr)
noncomputable def Ltx_money (a0 : (List Tapi_Output)) : Option (Bool) :=
 runLoop (Ltx_money_s1 a0) (0,0)
noncomputable def Ltx_Check_k1 (p8 : (List (Tapi_OutPoint×Bool))) (a0 : Tapi_Tx) : Option Int :=
 ((if (mget (zA 32,4294967295) p8).getD false = true then (Ltx_Coinbase a0).bind fun y10=>some (!(y10)) else some (false))).bind fun z11=>(if ((mget (zA 32,4294967295) p8).getD false = true∧z11 = true) then some (92) else some (0))
noncomputable def Ltx_Check_s1 (a0 : Tapi_Tx) : (Int×(List (Tapi_OutPoint×Bool)))→Option ((Int×(List (Tapi_OutPoint×Bool))) ⊕ (Int))
 | (p7,p8)=>(if p7 < (a0.2.1.length : Int) then (idx (a0.2.1) (p7)).bind fun x12=>(if (mget x12.1 p8).getD false = true then some (.inr (91)) else some (.inl (IntKind.i64.wrap (p7 + 1),mput x12.1 true p8))) else (Ltx_Check_k1 p8 a0).map Sum.inr)
noncomputable def Ltx_Check (a0 : Tapi_Tx) : Option (Int) :=
 (Ltx_fits a0).bind fun y1=>(if ¬ (y1 = true) then some (4) else (if ((a0.2.1.length : Int) = 0∨(a0.2.2.1.length : Int) = 0) then some (93) else (Ltx_money a0.2.2.1).bind fun y2=>(if ¬ (y2 = true) then some (90) else runLoop (Ltx_Check_s1 a0) (0,([] : (List (Tapi_OutPoint×Bool)))))))
noncomputable def Lspend_sum_k1 (p5 : Int) : Option (Int×Bool) :=
 some ((p5,true))
noncomputable def Lspend_sum_s1 (a0 : (List Tapi_Coin)) : (Int×Int)→Option ((Int×Int) ⊕ (Int×Bool))
 | (p5,p6)=>(if p6 < (a0.length : Int) then (idx (a0) (p6)).bind fun x8=>(if (x8.2.1.1 < 0∨IntKind.i64.wrap (2100000000000000 - p5) < x8.2.1.1) then some (.inr ((0,false))) else some (.inl (IntKind.i64.wrap (p5 + x8.2.1.1),IntKind.i64.wrap (p6 + 1)))) else (Lspend_sum_k1 p5).map Sum.inr)
noncomputable def Lspend_sum (a0 : (List Tapi_Coin)) : Option (Int×Bool) :=
 runLoop (Lspend_sum_s1 a0) (0,0)
noncomputable def Lspend_Fee_k2 (p15 : Int) : Option (Int×Int) :=
 (if p15 < 0 then some ((0,100)) else some ((p15,0)))
noncomputable def Lspend_Fee_s2 (a0 : Tapi_Tx) : (Int×Int)→Option ((Int×Int) ⊕ (Int×Int))
 | (p15,p16)=>(if p16 < (a0.2.2.1.length : Int) then (idx (a0.2.2.1) (p16)).bind fun x18=>some (.inl (IntKind.i64.wrap (p15 - x18.1),IntKind.i64.wrap (p16 + 1))) else (Lspend_Fee_k2 p15).map Sum.inr)
noncomputable def Lspend_Fee_k1 (a1 : (List Tapi_Coin)) (a0 : Tapi_Tx) : Option (Int×Int) :=
 (Lspend_sum a1).bind fun y10=>(if ¬ (y10.2 = true) then some ((0,90)) else runLoop (Lspend_Fee_s2 a0) (y10.1,0))
noncomputable def Lspend_Fee_s1 (a1 : (List Tapi_Coin)) (a0 : Tapi_Tx) : Int→Option ((Int) ⊕ (Int×Int))
 | p7=>(if p7 < (a1.length : Int) then (idx (a1) (p7)).bind fun x19=>(idx (a0.2.1) (p7)).bind fun x20=>(if ¬ ((x19.1.1 = x20.1.1∧x19.1.2 = x20.1.2)) then some (.inr ((0,101))) else some (.inl (IntKind.i64.wrap (p7 + 1)))) else (Lspend_Fee_k1 a1 a0).map Sum.inr)
noncomputable def Lspend_Fee (a0 : Tapi_Tx) (a1 : (List Tapi_Coin)) : Option (Int×Int) :=
 (Ltx_Check a0).bind fun y1=>(if ¬ (y1 = 0) then some ((0,y1)) else (if ¬ ((a1.length : Int) = (a0.2.1.length : Int)) then some ((0,8)) else runLoop (Lspend_Fee_s1 a1 a0) 0))
noncomputable def Lbuild_Valid_k1 (a0 : Tapi_Plan) : Option Bool :=
 (if (a0.2.2.2 < (-1)∨(a0.1.2.2.1.length : Int)≤a0.2.2.2) then some (false) else (Lspend_Fee a0.1 a0.2.1).bind fun y9=>some ((decide (y9.2 = 0) && decide (y9.1 = a0.2.2.1))))
noncomputable def Lbuild_Valid_s1 (a0 : Tapi_Plan) : Int→Option ((Int) ⊕ (Bool))
 | p7=>(if p7 < (a0.1.2.1.length : Int) then (idx (a0.1.2.1) (p7)).bind fun x10=>(if 0 < (x10.2.2.length : Int) then some (.inr (false)) else some (.inl (IntKind.i64.wrap (p7 + 1)))) else (Lbuild_Valid_k1 a0).map Sum.inr)
noncomputable def Lbuild_Valid (a0 : Tapi_Plan) : Option (Bool) :=
 (Ltx_Check a0.1).bind fun y1=>((if ¬ (y1 = 0) then some (false) else (Ltx_Coinbase a0.1).bind fun y2=>some (y2))).bind fun z3=>(if (¬ (y1 = 0)∨z3 = true) then some (false) else runLoop (Lbuild_Valid_s1 a0) 0)
noncomputable def Lref09_Null (a0 : Tapi_OutPoint) : Option (Bool) :=
 some ((decide (a0.1 = zA 32) && decide (a0.2 = 4294967295)))
noncomputable def Lref09_Coinbase (a0 : Tapi_Tx) : Option (Bool) :=
 ((if (a0.2.1.length : Int) = 1 then ((a0.2.1)[0]?).bind fun x1=>(Lref09_Null x1.1).bind fun y2=>some (y2) else some (false))).bind fun z3=>some ((decide ((a0.2.1.length : Int) = 1) && z3))
noncomputable def Lref09_Check_k3 : Option Int :=
 some (0)
noncomputable def Lref09_Check_s3 (a0 : Tapi_Tx) : Int→Option ((Int) ⊕ (Int))
 | p43=>(if p43 < (a0.2.1.length : Int) then (idx (a0.2.1) (p43)).bind fun x48=>(Lref09_Null x48.1).bind fun y49=>((if y49 = true then (Lref09_Coinbase a0).bind fun y50=>some (!(y50)) else some (false))).bind fun z51=>(if (y49 = true∧z51 = true) then some (.inr (92)) else some (.inl (IntKind.i64.wrap (p43 + 1)))) else (Lref09_Check_k3).map Sum.inr)
noncomputable def Lref09_Check_k2 (a0 : Tapi_Tx) : Option Int :=
 runLoop (Lref09_Check_s3 a0) 0
noncomputable def Lref09_Check_k4 (p25 : Int) : Option ((Int) ⊕ (Int)) :=
 some (.inl (IntKind.i64.wrap (p25 + 1)))
noncomputable def Lref09_Check_s4 (p25 : Int) (a0 : Tapi_Tx) : Int→Option ((Int) ⊕ ((Int) ⊕ (Int)))
 | p57=>(if p57 < p25 then (idx (a0.2.1) (p25)).bind fun x60=>(idx (a0.2.1) (p57)).bind fun x61=>(if (x60.1.1 = x61.1.1∧x60.1.2 = x61.1.2) then some (.inr (.inr (91))) else some (.inl (IntKind.i64.wrap (p57 + 1)))) else (Lref09_Check_k4 p25).map Sum.inr)
noncomputable def Lref09_Check_s2 (a0 : Tapi_Tx) : Int→Option ((Int) ⊕ (Int))
 | p25=>(if p25 < (a0.2.1.length : Int) then runLoop (Lref09_Check_s4 p25 a0) 0 else (Lref09_Check_k2 a0).map Sum.inr)
noncomputable def Lref09_Check_k1 (p6 : Int) (a0 : Tapi_Tx) : Option Int :=
 (if 2100000000000000 < p6 then some (90) else runLoop (Lref09_Check_s2 a0) 0)
noncomputable def Lref09_Check_s1 (a0 : Tapi_Tx) : (Int×Int)→Option ((Int×Int) ⊕ (Int))
 | (p6,p7)=>(if p7 < (a0.2.2.1.length : Int) then (idx (a0.2.2.1) (p7)).bind fun x62=>(if 2100000000000000 < x62.1 then some (.inr (90)) else some (.inl (IntKind.i64.wrap (p6 + x62.1),IntKind.i64.wrap (p7 + 1)))) else (Lref09_Check_k1 p6 a0).map Sum.inr)
noncomputable def Lref09_Check (a0 : Tapi_Tx) : Option (Int) :=
 (Lref09_Fits a0).bind fun y1=>(if ¬ (y1 = true) then some (4) else (if ((a0.2.1.length : Int) = 0∨(a0.2.2.1.length : Int) = 0) then some (93) else runLoop (Lref09_Check_s1 a0) (0,0)))
noncomputable def Lref10_Fee_k3 (p21 : Int) : Option (Int×Int) :=
 (if p21 < 0 then some ((0,100)) else some ((p21,0)))
noncomputable def Lref10_Fee_s3 (a0 : Tapi_Tx) : (Int×Int)→Option ((Int×Int) ⊕ (Int×Int))
 | (p21,p22)=>(if p22 < (a0.2.2.1.length : Int) then (idx (a0.2.2.1) (p22)).bind fun x24=>some (.inl (IntKind.i64.wrap (p21 - x24.1),IntKind.i64.wrap (p22 + 1))) else (Lref10_Fee_k3 p21).map Sum.inr)
noncomputable def Lref10_Fee_k2 (p14 : Int) (a0 : Tapi_Tx) : Option (Int×Int) :=
 (if 2100000000000000 < p14 then some ((0,90)) else runLoop (Lref10_Fee_s3 a0) (p14,0))
noncomputable def Lref10_Fee_s2 (a1 : (List Tapi_Coin)) (a0 : Tapi_Tx) : (Int×Int)→Option ((Int×Int) ⊕ (Int×Int))
 | (p14,p15)=>(if p15 < (a1.length : Int) then (idx (a1) (p15)).bind fun x25=>(if (x25.2.1.1 < 0∨2100000000000000 < x25.2.1.1) then some (.inr ((0,90))) else some (.inl (IntKind.i64.wrap (p14 + x25.2.1.1),IntKind.i64.wrap (p15 + 1)))) else (Lref10_Fee_k2 p14 a0).map Sum.inr)
noncomputable def Lref10_Fee_k1 (a1 : (List Tapi_Coin)) (a0 : Tapi_Tx) : Option (Int×Int) :=
 runLoop (Lref10_Fee_s2 a1 a0) (0,0)
noncomputable def Lref10_Fee_s1 (a1 : (List Tapi_Coin)) (a0 : Tapi_Tx) : Int→Option ((Int) ⊕ (Int×Int))
 | p7=>(if p7 < (a1.length : Int) then (idx (a1) (p7)).bind fun x26=>(idx (a0.2.1) (p7)).bind fun x27=>(if ¬ ((x26.1.1 = x27.1.1∧x26.1.2 = x27.1.2)) then some (.inr ((0,101))) else some (.inl (IntKind.i64.wrap (p7 + 1)))) else (Lref10_Fee_k1 a1 a0).map Sum.inr)
noncomputable def Lref10_Fee (a0 : Tapi_Tx) (a1 : (List Tapi_Coin)) : Option (Int×Int) :=
 (Lref09_Check a0).bind fun y1=>(if ¬ (y1 = 0) then some ((0,y1)) else (if ¬ ((a1.length : Int) = (a0.2.1.length : Int)) then some ((0,8)) else runLoop (Lref10_Fee_s1 a1 a0) 0))
def OeS_I_i64 (x : (List Int)) : Prop:=x.length≤maxLen∧∀ a∈x,(-9223372036854775808≤a∧a≤9223372036854775807)
end Go.Lc
end
section
namespace Go.Av
open Go.RowKit
set_option linter.unusedVariables false
/-! several contracts of one function -/
theorem lift_none {α : Type} {enc : α→List PV} {g : α→Option (PV×List (List Cell))} {ps : List PV} (h : ∀ a,enc a = ps→False) : lift enc g ps = none:=by
 rcases hx : lift enc g ps with _ | r
 ·rfl
 ·obtain ⟨a,ha,_⟩:=lift_inv hx
  exact (h a ha.symm).elim
/-! arrays out of rows -/
def arOf (n : Nat) (l : List Int) : Arr n:=if h : n≤l.length then ⟨l.take n,by simp [h]⟩ else zA n
theorem flat_ints {k : IntKind} (l : List Int) : (intsR k l).flatten = ints k l:=by
 induction l with
 | nil=>rfl
 | cons x l ih=>simp only [intsR,ints,List.map_cons,List.flatten_cons] at *; rw [ih]; rfl
@[simp high] theorem flat_len_ints {k : IntKind} {l : List Int} : (intsR k l).flatten.length = l.length:=by rw [flat_ints]; simp [ints]
def Arr.over {n : Nat} (a : Arr n) (l : List Int) : Arr n:=⟨l.take n++a.l.drop (min l.length n),by have:=a.hl; simp; omega⟩
/-! numbers -/
@[simp] theorem sg_u8 : IntKind.u8.signed = false:=rfl
@[simp] theorem mx_u8 : IntKind.u8.max = 255:=rfl
@[simp] theorem sg_u16 : IntKind.u16.signed = false:=rfl
@[simp] theorem mx_u16 : IntKind.u16.max = 65535:=rfl
@[simp] theorem sg_u32 : IntKind.u32.signed = false:=rfl
@[simp] theorem mx_u32 : IntKind.u32.max = 4294967295:=rfl
@[simp] theorem sg_u64 : IntKind.u64.signed = false:=rfl
@[simp] theorem mx_u64 : IntKind.u64.max = 18446744073709551615:=rfl
@[simp] theorem sg_i8 : IntKind.i8.signed = true:=rfl
@[simp] theorem sg_i16 : IntKind.i16.signed = true:=rfl
@[simp] theorem sg_i32 : IntKind.i32.signed = true:=rfl
@[simp] theorem sg_i64 : IntKind.i64.signed = true:=rfl
theorem lift_som {α β : Type} {enc : α→List PV} (hi : ∀ a b,enc a = enc b→a = b) {g : α→Option β} {R : α→β→PV×List (List Cell)} {x : α} {y : β} (h : g x = some y) : lift enc (fun x=>(g x).map (R x)) (enc x) = some (R x y):=by
 rw [lift_eq hi,h]; rfl
theorem mkI {P : Program} {tt : TT} {T : Tab} {G : Glob} {α β : Type} {enc : α→List PV} {g : α→Option β} {R : α→β→PV×List (List Cell)} (hm : P.follows .mixedOrders = true) (htt : ∀ t i,tt t = some i→tinfo P t = some i) (hT : ∀ f F,T f = some F→ImplE P G (f % 1000000) F) {f : FuncId} {fn : Func} {c : Code}
  (hf : P.funcs[f]? = some fn) (hb : fn.body = some c) (hname : (fn.name == "runtime.NumGoroutine") = false) (w : ∀ x y,g x = some y→∃ kp fl n,execFn tt T G kp fl n fn (enc x) = some (R x y)) : Impl P G f (lift enc fun x=>(g x).map (R x)) :=
 impl_of hm htt hT hf hb hname fun ps r ho hF=>by
  obtain ⟨x,rfl,h⟩:=lift_inv hF;obtain ⟨y,hy,rfl⟩:=Option.map_eq_some_iff.1 h;exact w x y hy
@[simp] theorem ba_beq (a b : ByteArray) : (a == b) = true↔a = b:=by
 obtain ⟨a⟩:=a;obtain ⟨b⟩:=b;have : ((⟨a⟩ : ByteArray) == ⟨b⟩) = (a == b):=rfl;rw [this];simp
@[simp] theorem intsR_tl {k : IntKind} {l : List Int} : intsR k l.tail = (intsR k l).tail:=by simp [intsR]
/-! recursion -/
theorem impl_never {P : Program} {G : Glob} {f : FuncId} {fn : Func} {c : Code} {F : List PV→Option (PV×List (List Cell))} (hf : P.funcs[f]? = some fn) (hb : fn.body = some c) (hname : (fn.name == "runtime.NumGoroutine") = false) (hF : ∀ ps,F ps = none) : Impl P G f F :=
 ⟨⟨fn,hf,by rw [hb]; rfl,hname⟩,fun S w ks hs ps vs r outs _ _ _ _ h=>by rw [hF] at h; cases h⟩
theorem never_lift {α β : Type} {enc : α→List PV} {g : α→Option β} {R : α→β→PV×List (List Cell)} (h : ∀ x,g x = none) : ∀ ps,lift enc (fun x=>(g x).map (R x)) ps = none:=by
 intro ps;unfold lift;split
 ·simp only [h]; rfl
 ·rfl
noncomputable def fixN {α : Type} (g : Nat→Option α) : Option α:=by
 classical
 exact if h : ∃ n,(g n).isSome = true then g (Classical.choose h) else none
theorem fixN_some {α : Type} {g : Nat→Option α} {y : α} (h : fixN g = some y) : ∃ n,g n = some y:=by
 unfold fixN at h;split at h
 ·exact ⟨_,h⟩
 ·cases h
theorem fixN_of {α : Type} {g : Nat→Option α} {y : α} (h : ∀ n x,g n = some x→x = y) (hn : ∃ n,g n = some y) : fixN g = some y:=by
 obtain ⟨n,hn⟩:=hn;have hx : ∃ n,(g n).isSome = true:=⟨n,by rw [hn]; rfl⟩
 unfold fixN;rw [dif_pos hx];obtain ⟨x,hx'⟩:=Option.isSome_iff_exists.1 (Classical.choose_spec hx);rw [hx',h _ _ hx']
theorem impl_fix {P : Program} {G : Glob} {f : FuncId} {α β : Type} {enc : α→List PV} {g : Nat→α→Option β} {R : α→β→PV×List (List Cell)} (h : ∀ n,Impl P G f (lift enc fun x=>(g n x).map (R x))) : Impl P G f (lift enc fun x=>(fixN fun n=>g n x).map (R x)):=by
 refine ⟨(h 0).1,fun S w ks hs ps vs r outs a1 a2 a3 a4 hF=>?_⟩;unfold lift at hF;split at hF
 ·rename_i he
  obtain ⟨y,hy,hr⟩:=Option.map_eq_some_iff.1 hF;obtain ⟨n,hn⟩:=fixN_some hy;refine (h n).2 S w ks hs ps vs r outs a1 a2 a3 a4 ?_;unfold lift;rw [dif_pos he];simp only [hn];simpa using hr
 ·cases hF
/-! normal forms -/
theorem pq : (∀ {id : Nat} {Q : AE→ASt→Prop} {s : ASt} {i : Nat},outOf id Q (.exit i) s = if i = id then Q .normal s else Q (.exit i) s)∧(∀ {id : Nat} {Q : AE→ASt→Prop} {s : ASt},outOf id Q .normal s = Q .normal s)∧(∀ {id : Nat} {Q : AE→ASt→Prop} {s : ASt},outOf id Q .ret s = Q .ret s) ∧
  (∀ {K : ASt→Prop} {Q : AE→ASt→Prop} {s : ASt},thenQ K Q .normal s = K s)∧(∀ {K : ASt→Prop} {Q : AE→ASt→Prop} {s : ASt} {i : Nat},thenQ K Q (.exit i) s = Q (.exit i) s)∧(∀ {K : ASt→Prop} {Q : AE→ASt→Prop} {s : ASt},thenQ K Q .ret s = Q .ret s) ∧
  (∀ {σ ρ : Type} {kq : Kp} {H : σ→ASt} {Q : AE→ASt→Prop} {r : ρ} {s : σ},QL kq H Q r (.inl s) = thenQ (fun st=>forget kq st = H s) fun _ _=>False)∧(∀ {σ ρ : Type} {kq : Kp} {H : σ→ASt} {Q : AE→ASt→Prop} {r r' : ρ},QL kq H Q r (.inr r') = thenQ (fun _=>False) fun e st=>r' = r→Q e st) ∧
  (∀ {a b : Prop},(if True then a else b) = a)∧(∀ {a b : Prop},(if False then a else b) = b) :=
 ⟨rfl,rfl,rfl,rfl,rfl,rfl,rfl,rfl,by simp,by simp⟩
theorem nf : (∀ {k : IntKind},intsR k [] = [])∧(∀ {k : IntKind} {x : Int} {l : List Int},intsR k (x :: l) = [.v (.int k x)] :: intsR k l)∧(∀ {k : IntKind} {l m : List Int},intsR k (l++m) = intsR k l++intsR k m)∧(∀ {k : IntKind} {l : List Int} {n : Nat},intsR k (l.take n) = (intsR k l).take n) ∧
  (∀ {k : IntKind} {l : List Int} {n : Nat},intsR k (l.drop n) = (intsR k l).drop n)∧(∀ {k : IntKind} {l : List Int} {n : Nat} {x : Int},intsR k (l.set n x) = (intsR k l).set n [.v (.int k x)])∧(∀ {k : IntKind} {n : Nat} {x : Int},intsR k (List.replicate n x) = List.replicate n [.v (.int k x)]) ∧
  (∀ {α β : Type} {f : α→β},List.map f [] = [])∧(∀ {α β : Type} {f : α→β} {a : α} {l : List α},List.map f (a :: l) = f a :: List.map f l)∧(∀ {α β : Type} {f : α→β} {l m : List α},List.map f (l++m) = List.map f l++List.map f m)∧(∀ {α β : Type} {f : α→β} {l : List α} {n : Nat},List.map f (l.take n) = (List.map f l).take n) ∧
  (∀ {α β : Type} {f : α→β} {l : List α} {n : Nat},List.map f (l.drop n) = (List.map f l).drop n)∧(∀ {α β : Type} {f : α→β} {l : List α} {n : Nat} {x : α},List.map f (l.set n x) = (List.map f l).set n (f x))∧(∀ {α β : Type} {f : α→β} {n : Nat} {x : α},List.map f (List.replicate n x) = List.replicate n (f x)) ∧
  (∀ {α : Type} {l : List α},[]++l = l)∧(∀ {α : Type} {x : α} {l m : List α},x :: l++m = x :: (l++m))∧(∀ {α : Type} {l m n : List α},l++m++n = l++(m++n)) :=
 ⟨intsR_nil,intsR_cons,intsR_app,intsR_tk,intsR_dr,intsR_st,intsR_rep,List.map_nil,List.map_cons,List.map_append,List.map_take,List.map_drop,List.map_set,List.map_replicate,List.nil_append _,List.cons_append,List.append_assoc _ _ _⟩
theorem bs {α β : Type} {o : Option α} {f : α→Option β} {y : β} (h : o.bind f = some y) : ∃ x,o = some x∧f x = some y:=Option.bind_eq_some_iff.1 h
theorem ms {α β : Type} {o : Option α} {f : α→β} {y : β} (h : o.map f = some y) : ∃ x,o = some x∧f x = y:=Option.map_eq_some_iff.1 h
@[simp] theorem pureL_flat {L : List (List Cell)} : pureL L.flatten = pureLL L:=List.all_flatten
@[simp] theorem hasSlL_flat {L : List (List Cell)} : hasSlL L.flatten = L.any hasSlL:=List.any_flatten
@[simp] theorem intsR_hasSl {k : IntKind} {l : List Int} : (intsR k l).any hasSlL = false:=by simp [intsR,hasSlL,Cell.hasSl,List.any_map]
/-- a part of a list set to one value -/
def clr {α : Type} (l : List α) (i n : Nat) (z : α) : List α:=l.take i++(List.replicate (min n (l.length - i)) z++l.drop (i + n))
@[simp] theorem clr_length {α : Type} {l : List α} {i n : Nat} {z : α} : (clr l i n z).length = l.length:=by simp [clr]; omega
@[simp] theorem take_clr {α : Type} {l : List α} {i n : Nat} {z : α} : (clr l i n z).take i = l.take i:=by
 unfold clr;rcases Nat.le_total i l.length with h | h
 ·rw [List.take_append_of_le_length (by simp [h]),List.take_take,Nat.min_self]
 ·rw [List.take_of_length_le h,show min n (l.length - i) = 0 by omega,List.drop_of_length_le (by omega)]
  simp [List.take_of_length_le h]
@[simp] theorem take_clr_ints {k : IntKind} {l : List Int} {i n : Nat} {z : Int} : List.take i (intsR k (clr l i n z)) = List.take i (intsR k l):=by
 rw [← intsR_tk,take_clr,intsR_tk]
end Go.Av
end
section
namespace Go.Lc
open Go.RowKit
open Go.Av
set_option maxRecDepth 100000
set_option linter.unusedSimpArgs false
set_option linter.unusedVariables false
abbrev Tapi_Entry:=Tapi_Tx×Int
def shaInitial : Arr 8:=⟨[1779033703,3144134277,1013904242,2773480762,1359893119,2600822924,528734635,1541459225],rfl⟩
def shaK : Arr 64:=⟨[1116352408,1899447441,3049323471,3921009573,961987163,1508970993,2453635748,2870763221,3624381080,310598401,607225278,1426881987,1925078388,2162078206,2614888103,3248222580,3835390401,4022224774,264347078,604807628,770255983,1249150122,1555081692,1996064986,2554220882,2821834349,2952996808,3210313671,3336571891,3584528711,113926993,338241895,666307205,773529912,1294757372,1396182291,1695183700,1986661051,2177026350,2456956037,2730485921,2820302411,3259730800,3345764771,3516065817,3600352804,4094571909,275423344,430227734,506948616,659060556,883997877,958139571,1322822218,1537002063,1747873779,1955562222,2024104815,2227730452,2361852424,2428436474,2756734187,3204031479,3329325298],rfl⟩
end Go.Lc
end
section
namespace Go.Lc
open Go.RowKit
open Go.Av
set_option maxRecDepth 100000
set_option linter.unusedSimpArgs false
set_option linter.unusedVariables false
noncomputable def Lref33_in (a0 : Int) (a1 : Int) (a2 : Int) : Option (Bool) :=
 some ((decide (a1≤a0) && decide (a0≤a2)))
noncomputable def Lref33_Rate (a0 : Int) (a1 : Int) : Option (Int) :=
 ((if (a0 < 0∨2100000000000000 < a0) then some (false) else (Lref33_in a1 1 80000).bind fun y1=>some (!(y1)))).bind fun z2=>(if ((a0 < 0∨2100000000000000 < a0)∨z2 = true) then some (0) else (chk (a1≠0)).bind fun _=>some ((if 1048576 < IntKind.i64.wrap ((IntKind.i64.wrap (1000 * a0)).tdiv a1) then 1048576 else IntKind.i64.wrap ((IntKind.i64.wrap (1000 * a0)).tdiv a1))))
end Go.Lc
end
