import Derived.Test.YthpkpciceodioaaGreatDoorAvP3
import Derived.WalkSpells
import Derived.MapKept
import Derived.Laws.StructEq
import Derived.Lib.BitFns
section
namespace Go.Av
open Go.RowKit
set_option linter.unusedVariables false
section
variable {tt : TT} {T : Tab} {G : Glob} {kp : Keep} {st st0 st1 : ASt} {a b c d : Code} {Q Q' : AE→ASt→Prop}
def ZW (tt : TT) (T : Tab) (G : Glob) (kp : Keep) (c : Code) (st : ASt) (Q : AE→ASt→Prop) : Prop:=∃ n0 e s,(∀ n,n0≤n→YX tt T G kp n c st = some (e,s))∧Q e s
theorem ZeW (h : ZW tt T G kp a st (Zeh (fun s=>ZW tt T G kp b s Q) Q)) : ZW tt T G kp (.seq a b) st Q:=by
 obtain ⟨n0,e,s,h1,h2⟩:=h;cases e with
 | normal =>
  obtain ⟨n1,e',s',h3,h4⟩:=h2;exact ⟨max n0 n1,e',s',fun n hn=>by simp [YX,h1 n (by omega),h3 n (by omega)],h4⟩
 | exit id=>exact ⟨n0,_,_,fun n hn=>by simp [YX,h1 n hn],h2⟩
 | ret=>exact ⟨n0,_,_,fun n hn=>by simp [YX,h1 n hn],h2⟩
theorem Y4 {id : Nat} {ops : Array Oper} (hc : c = .region id ops false) (h : Ze3 tt T G ops.toList ops.toList st = some st1) (hq : Q .normal st1) (hj : (kp (id + 1000000)).ks.isEmpty = true:=by rfl) : ZW tt T G kp c st Q:=⟨0,_,_,fun n _=>by subst hc; simp [YX,Yk,hj,h],hq⟩
theorem Zfw {id : Nat} {ops : Array Oper} {fs : List Foot} (hc : c = .region id ops true) (h : Ze4 tt T G ops.toList ops.toList st = some (st1,fs)) (hd : ZcQ ops.toList fs = true) (hq : Q .normal st1) (hj : (kp (id + 1000000)).ks.isEmpty = true:=by rfl) : ZW tt T G kp c st Q:=⟨0,_,_,fun n _=>by subst hc; simp [YX,Yk,hj,h,hd],hq⟩
theorem Zd {id : Nat} {ops : Array Oper} (hc : c = .region id ops false) (h : Ze3 tt T G ops.toList ops.toList st = some st1) (hq : ZW tt T G kp b st1 Q) (hj : (kp (id + 1000000)).ks.isEmpty = true:=by rfl) : ZW tt T G kp (.seq c b) st Q:=ZeW (Y4 hc h hq hj)
theorem ZZ {id : Nat} {ops : Array Oper} {fs : List Foot} (hc : c = .region id ops true) (h : Ze4 tt T G ops.toList ops.toList st = some (st1,fs)) (hd : ZcQ ops.toList fs = true) (hq : ZW tt T G kp b st1 Q) (hj : (kp (id + 1000000)).ks.isEmpty = true:=by rfl) : ZW tt T G kp (.seq c b) st Q:=ZeW (Zfw hc h hd hq hj)
theorem Zgl (h : Q .normal st) : ZW tt T G kp .skip st Q:=⟨0,_,_,fun _ _=>rfl,h⟩
theorem Zbm (h : Q .ret st) : ZW tt T G kp .ret st Q:=⟨0,_,_,fun _ _=>rfl,h⟩
theorem ZlG {id : Nat} (h : Q (.exit id) st) : ZW tt T G kp (.exit id) st Q:=⟨0,_,_,fun _ _=>rfl,h⟩
theorem Zz (h : ZW tt T G kp b st Q) : ZW tt T G kp (.seq .skip b) st Q:=ZeW (Zgl h)
theorem ZaD (h : Q .ret st) : ZW tt T G kp (.seq .ret b) st Q:=ZeW (Zbm h)
theorem Z0 {id : Nat} (h : Q (.exit id) st) : ZW tt T G kp (.seq (.exit id) b) st Q:=ZeW (ZlG h)
theorem Zy (h : ZW tt T G kp (.seq a (.seq b d)) st Q) : ZW tt T G kp (.seq (.seq a b) d) st Q:=by
 obtain ⟨n0,e,s,h1,h2⟩:=h;refine ⟨n0,e,s,fun n hn=>?_,h2⟩;rw [← h1 n hn];simp only [YX];cases YX tt T G kp n a st with
 | none=>rfl
 | some x=>obtain ⟨e,s⟩:=x; cases e <;> rfl
theorem Zbn {x : Operand} (h : rd G st.get x = some (bV true)) (h1 : ZW tt T G kp a st Q) : ZW tt T G kp (.cond x a b) st Q:=by
 unfold bV at h;obtain ⟨n0,e,s,h3,h4⟩:=h1; exact ⟨n0,e,s,fun n hn=>by simp only [YX,h,h3 n hn,if_true],h4⟩
theorem Zbo {x : Operand} (h : rd G st.get x = some (bV false)) (h1 : ZW tt T G kp b st Q) : ZW tt T G kp (.cond x a b) st Q:=by
 unfold bV at h;obtain ⟨n0,e,s,h3,h4⟩:=h1; exact ⟨n0,e,s,fun n hn=>by simp only [YX,h,h3 n hn,Bool.false_eq_true,if_false],h4⟩
theorem ZB {x : Operand} (h : rd G st.get x = some (bV true)) (h1 : ZW tt T G kp (.seq a d) st Q) : ZW tt T G kp (.seq (.cond x a b) d) st Q:=by
 unfold bV at h;obtain ⟨n0,e,s,h3,h4⟩:=h1; exact ⟨n0,e,s,fun n hn=>by rw [← h3 n hn]; simp only [YX,h,if_true],h4⟩
theorem Zl {x : Operand} (h : rd G st.get x = some (bV false)) (h1 : ZW tt T G kp (.seq b d) st Q) : ZW tt T G kp (.seq (.cond x a b) d) st Q:=by
 unfold bV at h;obtain ⟨n0,e,s,h3,h4⟩:=h1; exact ⟨n0,e,s,fun n hn=>by rw [← h3 n hn]; simp only [YX,h,Bool.false_eq_true,if_false],h4⟩
theorem XH {id : Nat} (h : ZW tt T G kp c st (Zfs id Q)) : ZW tt T G kp (.block id c) st Q:=by
 obtain ⟨n0,e,s,h1,h2⟩:=h;cases e with
 | normal=>exact ⟨n0,.normal,s,fun n hn=>by simp [YX,h1 n hn],h2⟩
 | ret=>exact ⟨n0,.ret,s,fun n hn=>by simp [YX,h1 n hn],h2⟩
 | exit id' =>
  simp only [Zfs] at h2;split at h2
  ·rename_i hid; exact ⟨n0,.normal,s,fun n hn=>by simp [YX,h1 n hn,hid],h2⟩
  ·rename_i hid; exact ⟨n0,.exit id',s,fun n hn=>by simp [YX,h1 n hn,hid],h2⟩
theorem Yd {id : Nat} (h : ZW tt T G kp c st (Zfs id (Zeh (fun s=>ZW tt T G kp d s Q) Q))) : ZW tt T G kp (.seq (.block id c) d) st Q:=ZeW (XH h)
theorem ZpQ {n : Nat} {st st' : ASt} : ∀ {c : Code} {key : Nat},firstJ c = some key→(kp key).ks.isEmpty = false→Za5 (kp key) st = Za5 (kp key) st'→YX tt T G kp n c st = YX tt T G kp n c st' := by
 intro c;induction c with
 | region id ops dr =>
  intro key hc ha hf;simp only [firstJ,Option.some.injEq] at hc;subst hc;simp only [YX,Yk,ha,Bool.false_eq_true,if_false,hf]
 | seq a b iha ihb =>
  intro key hc ha hf;simp only [firstJ] at hc;simp only [YX,iha hc ha hf]
 | block id c ih =>
  intro key hc ha hf;simp only [firstJ] at hc;simp only [YX,ih hc ha hf]
 | loop c ih =>
  intro key hc ha hf;simp only [firstJ,Option.some.injEq] at hc;subst hc;cases n with
  | zero=>rfl
  | succ n=>simp only [YX,Zf6,hf]
 | _=>intro key hc; simp [firstJ] at hc
theorem Y7 {key : Nat} {kq : Kp} {H : ASt} (hc : firstJ c = some key) (hk : kp key = kq) (ha : kq.ks.isEmpty = false) (hf : Za5 kq st = Za5 kq H) (h : ZW tt T G kp c H Q) : ZW tt T G kp c st Q:=by
 subst hk;obtain ⟨n0,e,s,h1,h2⟩:=h;exact ⟨n0,e,s,fun n hn=>by rw [ZpQ hc ha hf]; exact h1 n hn,h2⟩
theorem Zcj {σ ρ : Type} {l rhs : Option ρ} (_ : l = rhs) (H : σ→ASt) (f : σ→Option ρ) (hJ : ∀ s,f s = rhs→ZW tt T G kp b (H s) Q) (hm : (∀ s,f s = rhs→ZW tt T G kp b (H s) Q)→ZW tt T G kp (.seq a b) st Q) : ZW tt T G kp (.seq a b) st Q:=hm hJ
theorem Zb7 {σ ρ : Type} {l rhs : Option ρ} (_ : l = rhs) (X : AE) (H : σ→ASt) (f : σ→Option ρ) (hJ : ∀ s,f s = rhs→Q X (H s)) (hm : (∀ s,f s = rhs→Q X (H s))→ZW tt T G kp c st Q) : ZW tt T G kp c st Q:=hm hJ
theorem Zb8 {id : Nat} {ops : Array Oper} {kq : Kp} (hc : c = .region id ops false) (hk : kp (id + 1000000) = kq) (hf : Yk kq st = st0) (h : Ze3 tt T G ops.toList ops.toList st0 = some st1) (hq : Q .normal st1) : ZW tt T G kp c st Q:=⟨0,_,_,fun n _=>by subst hc; simp [YX,hk,hf,h],hq⟩
theorem ZkM {id : Nat} {ops : Array Oper} {kq : Kp} {fs : List Foot} (hc : c = .region id ops true) (hk : kp (id + 1000000) = kq) (hf : Yk kq st = st0) (h : Ze4 tt T G ops.toList ops.toList st0 = some (st1,fs)) (hd : ZcQ ops.toList fs = true) (hq : Q .normal st1) : ZW tt T G kp c st Q:=⟨0,_,_,fun n _=>by subst hc; simp [YX,hk,hf,h,hd],hq⟩
theorem Y5 {id : Nat} {ops : Array Oper} {kq : Kp} (hc : c = .region id ops false) (hk : kp (id + 1000000) = kq) (hf : Yk kq st = st0) (h : Ze3 tt T G ops.toList ops.toList st0 = some st1) (hq : ZW tt T G kp b st1 Q) : ZW tt T G kp (.seq c b) st Q:=ZeW (Zb8 hc hk hf h hq)
theorem ZaH {id : Nat} {ops : Array Oper} {kq : Kp} {fs : List Foot} (hc : c = .region id ops true) (hk : kp (id + 1000000) = kq) (hf : Yk kq st = st0) (h : Ze4 tt T G ops.toList ops.toList st0 = some (st1,fs)) (hd : ZcQ ops.toList fs = true) (hq : ZW tt T G kp b st1 Q) : ZW tt T G kp (.seq c b) st Q:=ZeW (ZkM hc hk hf h hd hq)
def Zbc {σ ρ : Type} (step : σ→Option (σ ⊕ ρ)) : Nat→σ→Option ρ
 | 0,_=>none
 | m + 1,s=>match step s with | some (.inl s')=>Zbc step m s' | some (.inr r)=>some r | none=>none
theorem ZgR {σ ρ : Type} {step : σ→Option (σ ⊕ ρ)} : ∀ {m : Nat} {s : σ} {r : ρ},Zbc step m s = some r→∀ k,Zbc step (m + k) s = some r
 | 0,_,_,h=>by simp [Zbc] at h
 | m + 1,s,r,h=>by
  intro k;rw [show m + 1 + k = (m + k) + 1 by omega];simp only [Zbc] at h ⊢;split at h
  ·rename_i s' hs
   exact ZgR h k
  ·exact h
  ·simp at h
noncomputable def Zg {σ ρ : Type} (step : σ→Option (σ ⊕ ρ)) (s : σ) : Option ρ:=by
 classical
 exact if h : ∃ m r,Zbc step m s = some r then some (Classical.choose (Classical.choose_spec h)) else none
theorem Zb9 {σ ρ : Type} {step : σ→Option (σ ⊕ ρ)} {s : σ} {r : ρ} : Zg step s = some r↔∃ m,Zbc step m s = some r:=by
 unfold Zg;constructor
 ·intro h
  split at h
  ·rename_i hx
   have:=Classical.choose_spec (Classical.choose_spec hx);injection h with h;rw [h] at this;exact ⟨_,this⟩
  ·simp at h
 ·rintro ⟨m,h⟩
  have hx : ∃ m r,Zbc step m s = some r:=⟨m,r,h⟩
  rw [dif_pos hx];have h2:=Classical.choose_spec (Classical.choose_spec hx);have h3:=ZgR h (Classical.choose hx);have h4:=ZgR h2 m;rw [Nat.add_comm,h3] at h4;exact h4.symm
theorem ZgS {σ ρ : Type} (step : σ→Option (σ ⊕ ρ)) (s : σ) : Zg step s = (match step s with | some (.inl s')=>Zg step s' | some (.inr r)=>some r | none=>none):=by
 apply Option.ext
 intro r;rw [Zb9];constructor
 ·rintro ⟨m,h⟩
  cases m with
  | zero=>simp [Zbc] at h
  | succ m =>
   simp only [Zbc] at h;split at h
   ·exact Zb9.2 ⟨m,h⟩
   ·exact h
   ·simp at h
 ·intro h
  split at h
  ·rename_i s' hs
   obtain ⟨m,hm⟩:=Zb9.1 h;exact ⟨m + 1,by simp [Zbc,hs,hm]⟩
  ·rename_i r' hs
   exact ⟨1,by simpa [Zbc,hs] using h⟩
  ·simp at h
def QL {σ ρ : Type} (kq : Kp) (H : σ→ASt) (Q : AE→ASt→Prop) (r : ρ) : σ ⊕ ρ→AE→ASt→Prop
 | .inl s'=>Zeh (fun st=>Za5 kq st = H s') fun _ _=>False
 | .inr r'=>Zeh (fun _=>False) fun e st=>r' = r→Q e st
theorem Zq8 {σ ρ : Type} {kq : Kp} {step : σ→Option (σ ⊕ ρ)} {H : σ→ASt} {r : ρ}
  (hb : ∀ s x,step s = some x→ZW tt T G kp c (H s) (QL kq H Q r x)) :
  ∀ (m : Nat) (s : σ) (st : ASt),Zbc step m s = some r→Za5 kq st = H s→∃ n0 e s',(∀ M,n0≤M→∀ n,n0≤n→Zf6 kq (YX tt T G kp n c) M st = some (e,s'))∧Q e s' := by
 intro m;induction m with
 | zero=>intro s st h; simp [Zbc] at h
 | succ m ih =>
  intro s st h hf;simp only [Zbc] at h;split at h
  ·rename_i s' hs
   obtain ⟨n1,e,st',h1,h2⟩:=hb s _ hs;cases e with
   | normal =>
    obtain ⟨n2,e2,st2,h3,h4⟩:=ih s' st' h h2;refine ⟨max n1 n2 + 1,e2,st2,fun M hM n hn=>?_,h4⟩;obtain ⟨M,rfl⟩ : ∃ M',M = M' + 1:=⟨M - 1,by omega⟩
    simp only [Zf6,hf,h1 n (by omega)];exact h3 M (by omega) n (by omega)
   | exit id=>exact h2.elim
   | ret=>exact h2.elim
  ·rename_i r' hs
   injection h with h;subst h;obtain ⟨n1,e,st',h1,h2⟩:=hb s _ hs;cases e with
   | normal=>exact h2.elim
   | exit id =>
    refine ⟨n1 + 1,_,_,fun M hM n hn=>?_,h2 rfl⟩;obtain ⟨M,rfl⟩ : ∃ M',M = M' + 1:=⟨M - 1,by omega⟩
    simp only [Zf6,hf,h1 n (by omega)]
   | ret =>
    refine ⟨n1 + 1,_,_,fun M hM n hn=>?_,h2 rfl⟩;obtain ⟨M,rfl⟩ : ∃ M',M = M' + 1:=⟨M - 1,by omega⟩
    simp only [Zf6,hf,h1 n (by omega)]
  ·simp at h
theorem XB {σ ρ : Type} {kq : Kp} {step : σ→Option (σ ⊕ ρ)} {H : σ→ASt} (hk : kp (firstId c) = kq) {s : σ} {r : ρ}
  (hr : Zg step s = some r) (hf : Za5 kq st = H s)
  (hb : ∀ s x,step s = some x→ZW tt T G kp c (H s) (QL kq H Q r x)) : ZW tt T G kp (.loop c) st Q:=by
 obtain ⟨m,hm⟩:=Zb9.1 hr;obtain ⟨n0,e,s',h1,h2⟩:=Zq8 hb m s st hm hf;refine ⟨n0,e,s',fun n hn=>?_,h2⟩;simp only [YX];rw [hk];exact h1 n hn n hn
theorem fnE {fn : Func} {args : List PV} {w : Bool} {r : PV×List (List Cell)} (hb : fn.body = some c) (hc : ZhM args = true) (h : ZW tt T G kp c ⟨(ioIn 0 0 args).1++List.replicate (fn.ntmps - args.length) .skip,Zgy args⟩ (Zaj tt w fn args r)) : ∃ kp fl n,Y8 tt T G kp fl n fn args = some r:=by
 obtain ⟨n0,e,s,h1,h2⟩:=h;exact ⟨kp,w,n0,ZpL hb hc ⟨e,s,h1 n0 (Nat.le_refl _),h2⟩⟩
end
end Go.Av
end
section
namespace Go.Av
open Go.RowKit
set_option linter.unusedVariables false
def idx {α : Type} (l : List α) (i : Int) : Option α:=if 0≤i then l[i.toNat]? else none
theorem Ziq {α : Type} {l : List α} {i : Int} {x : α} (h : idx l i = some x) : 0≤i∧l[i.toNat]? = some x:=by
 unfold idx at h;split at h
 ·exact ⟨by assumption,h⟩
 ·simp at h
def inA (n : Nat) (i : Int) : Option Nat:=if 0≤i∧i < n then some i.toNat else none
theorem Zn {n : Nat} {i : Int} {j : Nat} (h : inA n i = some j) : 0≤i∧i.toNat = j∧j < n:=by
 unfold inA at h;split at h
 ·simp at h
  omega
 ·simp at h
def chk (p : Prop) [Decidable p] : Option Unit:=if p then some () else none
theorem ZA {p : Prop} [Decidable p] {u : Unit} (h : chk p = some u) : p:=by
 unfold chk at h;split at h
 ·assumption
 ·simp at h
theorem ZlH {p : Prop} [Decidable p] (h : p) : chk p = some ():=by simp [chk,h]
@[simp] theorem ZsX {k : IntKind} {l m : List Int} : Ze k l = Ze k m↔l = m:=⟨Znw,fun h=>by rw [h]⟩
@[simp] theorem ZtL {n : Nat} {k : IntKind} {a b : Arr n} : arC k a = arC k b↔a = b:=⟨Zjk,fun h=>by rw [h]⟩
@[simp] theorem ZtM {n : Nat} {k : IntKind} {a b : Arr n} {s t : List Cell} : arC k a++s = arC k b++t↔a = b∧s = t:=by
 constructor
 ·intro h
  obtain ⟨h1,h2⟩:=List.append_inj h (by simp);exact ⟨Zjk h1,h2⟩
 ·rintro ⟨rfl,rfl⟩; rfl
theorem ZlI {α : Type} {f : α→List Cell} (hf : ∀ a b,f a = f b→a = b) {l m : List α} : l.map f = m.map f↔l = m:=List.map_inj_right hf
@[simp] theorem Zth {n : Nat} {k : IntKind} {l m : List (Arr n)} : List.map (arC k) l = List.map (arC k) m↔l = m:=ZlI fun _ _ h=>Zjk h
@[simp] theorem Zr1 {n : Nat} {k : IntKind} {l : List (Arr n)} : ∀ x∈List.map (arC k) l,x.length = n:=by simp
@[simp] theorem Zhs {k : IntKind} : Ze k [] = []:=rfl
@[simp] theorem ZgT {k : IntKind} {x : Int} {l : List Int} : Ze k (x :: l) = [.v (.int k x)] :: Ze k l:=rfl
@[simp] theorem Y6 {k : IntKind} {l m : List Int} : Ze k (l++m) = Ze k l++Ze k m:=intsR_append.symm
@[simp] theorem ZfM {k : IntKind} {l : List Int} {n : Nat} : Ze k (l.take n) = (Ze k l).take n:=(ZgP n).symm
@[simp] theorem ZkN {k : IntKind} {l : List Int} {n : Nat} : Ze k (l.drop n) = (Ze k l).drop n:=(ZiN n).symm
@[simp] theorem Zb {k : IntKind} {l : List Int} {n : Nat} {x : Int} : Ze k (l.set n x) = (Ze k l).set n [.v (.int k x)]:=(Za n x).symm
@[simp] theorem ZjP {k : IntKind} {n : Nat} {x : Int} : Ze k (List.replicate n x) = List.replicate n [.v (.int k x)]:=by simp [Ze]
@[simp] theorem Zsl {k : IntKind} {m : List Int} : (∀ l,l∈Ze k m→l.length = 1) = True:=eq_true fun l h=>intsR_all l h
@[simp] theorem isSl_v (x : Value) : Cell.isSl (.v x) = false:=rfl
@[simp] theorem ZtN (els : List (List Cell)) : Cell.isSl (.slice .no els) = true:=rfl
@[simp] theorem Zti (els : List (List Cell)) : Cell.isSl (.slice .nil els) = false:=rfl
@[simp] theorem ZtO (a b c d e : Nat) : Cell.isSl (.ms a b c d e) = false:=rfl
@[simp] theorem ZtP (a b c d e : Nat) : Cell.isSl (.fv a b c d e) = false:=rfl
@[simp] theorem Ztj (e : Nat) (els : List (List Cell)) : Cell.isSl (.own e els) = false:=rfl
@[simp] theorem ZsY {k : IntKind} {l : List Int} : (Ze k l).any (fun l=>l.any Cell.isSl) = false:=by simp [Ze,List.any_map]
@[simp] theorem ZtQ {n : Nat} {k : IntKind} {a : Arr n} : (arC k a).any Cell.isSl = false:=by simp [arC,ints]
@[simp] theorem Ztk {n : Nat} {k : IntKind} {l : List (Arr n)} : (List.map (arC k) l).any (fun l=>l.any Cell.isSl) = false:=by simp [List.any_map]
@[simp] theorem ZsZ {bx : Boxes} {ns : List Nat} {n : Nat} {l : List Cell} : Xe bx ns (List.replicate n l) = List.replicate n (ZcH bx ns l):=by simp [Xe]
@[simp] theorem Zs0 {bx : Boxes} {ns : List Nat} {els : List (List Cell)} {n : Nat} {l : List Cell} : Xe bx ns (els.set n l) = (Xe bx ns els).set n (ZcH bx ns l):=by simp [Xe,List.map_set]
@[simp] theorem Zsm {bx : Boxes} {ns : List Nat} {els : List (List Cell)} {n : Nat} : Xe bx ns (els.take n) = (Xe bx ns els).take n:=by simp [Xe]
@[simp] theorem Zsn {bx : Boxes} {ns : List Nat} {els : List (List Cell)} {n : Nat} : Xe bx ns (els.drop n) = (Xe bx ns els).drop n:=by simp [Xe]
@[simp] theorem Zso {n : Nat} {l : List Cell} (h : YI l = true) : ZQ (List.replicate n l) = true:=by
 simp only [ZQ,List.all_eq_true,List.mem_replicate];rintro x ⟨_,rfl⟩
 exact h
theorem ZiP {a b : List (List Cell)} (h : ∀ x∈a,x∈b) (hb : ZQ b = true) : ZQ a = true:=by
 simp only [ZQ,List.all_eq_true] at *;exact fun x hx=>hb x (h x hx)
@[simp] theorem Zr2 {n : Nat} {els : List (List Cell)} (h : ZQ els = true) : ZQ (els.take n) = true:=ZiP (fun _=>List.mem_of_mem_take) h
@[simp] theorem Zr3 {n : Nat} {els : List (List Cell)} (h : ZQ els = true) : ZQ (els.drop n) = true:=ZiP (fun _=>List.mem_of_mem_drop) h
@[simp] theorem Zsp {n : Nat} {els : List (List Cell)} {l : List Cell} (h : ZQ els = true) (hl : YI l = true) : ZQ (els.set n l) = true:=by
 simp only [ZQ,List.all_eq_true] at *;intro x hx;rcases List.mem_or_eq_of_mem_set hx with h1 | rfl
 ·exact h x h1
 ·exact hl
@[simp] theorem Zsq {k : IntKind} {l : List Int} {i : Nat} (h : i < (Ze k l).length) : (Ze k l)[i] = [.v (.int k (l[i]'(by simpa using h)))]:=by simp [Ze]
theorem Zj {α : Type} {l : List α} {i : Nat} {x : α} (h : l[i]? = some x) : ∀ h' : i < l.length,l[i] = x:=fun h'=>by
 rw [List.getElem?_eq_getElem h'] at h;injection h
@[simp] theorem bits_u64 : IntKind.u64.bits = 64:=rfl
@[simp] theorem bits_u32 : IntKind.u32.bits = 32:=rfl
@[simp] theorem bits_u16 : IntKind.u16.bits = 16:=rfl
@[simp] theorem bits_u8 : IntKind.u8.bits = 8:=rfl
@[simp] theorem bits_i64 : IntKind.i64.bits = 64:=rfl
@[simp] theorem bits_i32 : IntKind.i32.bits = 32:=rfl
@[simp] theorem maxLen_eq : maxLen = 9223372036854775807:=rfl
@[simp] theorem Zs1 {n m : Nat} {k : IntKind} {a : Arr n} (h : m≤n) : X0 1 m (arC k a) = (Ze k a.l).take m:=by
 unfold arC;rw [chunk_ints (by rw [a.hl]; exact h),ZgP]
@[simp] theorem ZpR {n m o : Nat} {k : IntKind} {a : Arr n} (h : o + m≤n) : X0 1 m ((arC k a).drop o) = ((Ze k a.l).drop o).take m:=by
 unfold arC;rw [Znv,chunk_ints (by have:=a.hl; simp; omega),ZiN,ZgP]
@[simp] theorem ZtR {n : Nat} {a : Arr n} : a.l.length = n:=a.hl
@[simp] theorem Zr4 {n : Nat} {k : IntKind} {a b : Arr n} {s t : List Cell} : cellsEq (arC k a++s) (arC k b++t) = (match cellsEq s t with | some c=>some (decide (a = b) && c) | none=>none):=by
 have h : ∀ {l m : List Int},l.length = m.length→cellsEq (ints k l++s) (ints k m++t) = (match cellsEq s t with | some c=>some ((l == m) && c) | none=>none):=by
  intro l;induction l with
  | nil=>intro m h; cases m with
   | nil=>simp [ints]; cases cellsEq s t <;> rfl
   | cons y m=>simp at h
  | cons x l ih=>intro m h; cases m with
   | nil=>simp at h
   | cons y m =>
    have:=ih (m:=m) (by simpa using h);simp only [ints] at this;simp only [ints,List.map_cons,List.cons_append,cellsEq,cellEq,if_true,this];cases cellsEq s t with
    | none=>rfl
    | some c=>simp [List.cons_beq_cons,Bool.and_assoc]
 unfold arC;rw [h (by rw [a.hl,b.hl])]
 have e : (a.l == b.l) = decide (a = b):=by
  cases a; cases b
  rw [Bool.eq_iff_iff];simp
 rw [e]
@[simp] theorem Zr5 {n : Nat} {k k' : IntKind} (a b : Arr n) (cs ds : List Cell) : ZP (arC k a++cs) 0 (arC k' b++ds) = arC k' b++ZP cs 0 ds:=by
 unfold ZP;simp only [List.take_zero,List.nil_append,Nat.zero_add,List.length_append,ZpP,List.drop_append,List.append_assoc];rw [List.drop_of_length_le (by simp)];simp
theorem Zia {α : Type} {f : α→List Cell} {s : Nat} (h : ∀ a,(f a).length = s) (m : List α) : (∀ l,l∈List.map f m→l.length = s) = True:=eq_true fun l hl=>by
 obtain ⟨a,_,rfl⟩:=List.mem_map.1 hl;exact h a
@[simp↓] theorem ZtS {n : Nat} {k : IntKind} (m : List (Arr n)) : (∀ l,l∈List.map (arC k) m→l.length = n) = True:=Zia (by simp) m
def frS (b : Bool) (bx : Boxes) : List Nat→List (Nat×Box)
 | []=>[]
 | x :: l=>if b then Xy bx (x :: l) else []
@[simp] theorem ZtT (b : Bool) (bx : Boxes) : frS b bx [] = []:=rfl
@[simp] theorem Zs2 (bx : Boxes) (l : List Nat) : frS false bx l = []:=by cases l <;> rfl
@[simp] theorem Ztl (bx : Boxes) (l : List Nat) : frS true bx l = Xy bx l:=by cases l <;> rfl
theorem Znz (T : Tab) (d : Option Nat) (f : FuncId) (ps : List PV) (bx : Boxes) : ZeR T d f ps bx = (match Zkc T f,ZeG bx (T.own (d.getD 90000)) ps with
 | some F,some qs =>
  match F qs with
  | some (r,outs) =>
   match Zcg bx (ioPs (T.own (d.getD 90000)) ps) outs,Zfm bx (d.getD 90000) r with
   | some (bo,br),some (p,bn) =>
    if nodupB (ioPs (T.own (d.getD 90000)) ps++(br++bn).map (·.1)) && (XE bx (T.own (d.getD 90000)) ps).all (fun x=>!(ioPs (T.own (d.getD 90000)) ps++Zba bx (T.own (d.getD 90000)) ps++(br++bn).map (·.1)).contains x) && (bn.isEmpty || d.isSome) && ZaL ((br++bn).map (·.1)) && nodupB (ioPs (T.own (d.getD 90000)) ps++Zba bx (T.own (d.getD 90000)) ps) && (!(hasSlR r || outs.any hasSlL) || ZaL (XE bx (T.own (d.getD 90000)) ps)) then
     some ⟨Za9 d p,frS (hasSlR r || outs.any hasSlL) bx (XE bx (T.own (d.getD 90000)) ps)++bo++(br++bn++ZeH bx ((Zba bx (T.own (d.getD 90000)) ps).filter fun x=>!((br++bn).map (·.1)).contains x)),XE bx (T.own (d.getD 90000)) ps++ioPs (T.own (d.getD 90000)) ps++Zba bx (T.own (d.getD 90000)) ps++(br++bn).map (·.1)⟩
    else none
   | _,_=>none
  | none=>none
 | _,_=>none):=by
 have h : ∀ (b : Bool) l,(if b then Xy bx l else []) = frS b bx l:=by
  intro b l;cases b <;> simp [-Xy]
 unfold ZeR;simp only [h];rfl
attribute [simp] Znz
end Go.Av
end
section
namespace Go.Av
open Go.RowKit
set_option linter.unusedVariables false
theorem ZiQ {P : Program} (w : World) (t ty e : TypeId) (i : TypeInfo) (ht : P.underlying t = some (.slice e)) (hi : P.info? e = some i) (b x : Option Addr) (n c c' : Nat) (hc : n≤c) :
  (Builtin.append_ #[t,t] ty #[.slice b n c,.slice x 0 c']).run P w = .ok (.slice b n c) w:=by
 have hf : ∀ y : Option Addr,(Builtin.firstCells i.size 0 (.slice y 0 c')).run P w = .ok #[] w:=by
  intro y;cases y with
  | none=>simp [Builtin.firstCells]
  | some y=>simp [Builtin.firstCells,loadCells,loadCellsFrom]
 cases b <;> simp [Builtin.append_,run_underlying ht,sizeOf,typeInfo,hi,Builtin.lenOf,hc,hf,storeCells]
theorem ZmM {P : Program} {G : Glob} {f : FuncId} {fn : Func} {α : Type} {e t N : Nat} {rows : List α→List (List Cell)} (hfn : P.funcs[f]? = some fn) (hb : fn.body.isNone = false) (hnm : (fn.name == "runtime.NumGoroutine") = false)
  (F : List PV→Option (PV×List (List Cell))) (hF : ∀ ps r,F ps = some r→∃ l : List α,ps = [.one (.slice .no (rows l))]∧r = (.one (.own e (rows l)),[]))
  (hnil : rows [] = [])
  (h1 : ∀ l,l≠[]→∀ r,F [.one (.slice .no (rows l))] = some r→Zi P G f fun ps=>by classical exact if ps = [.one (.slice .no (rows l))] then some r else none)
  (h2 : ∀ (x : Option Addr) (c : Nat) (w : World),Calls P f #[.slice x 0 c] w fun ee w'=>∃ y,ee = .returned (.slice y 0 0)∧(w' = w∨w' = w.alloc (.cells #[] t))) : Zi P G f F:=by
 refine ⟨⟨fn,hfn,hb,hnm⟩,?_⟩;intro S w ks hh ps vs r outs hg hs ha hk hFr;obtain ⟨l,rfl,hr⟩:=hF ps _ hFr;by_cases hl : l = []
 ·subst hl
  rw [hnil] at ha hr;injection hr with hr1 hr2;subst hr1 hr2;cases ha with
  | one ha1 ha =>
   cases ha
   cases ha1 with
   | pure ha1 =>
   obtain ⟨x,c,hv,_⟩:=ha1.len;simp at hv
   subst hv;refine (h2 x c w).mono ?_;rintro ee w' ⟨y,rfl,rfl | rfl⟩
   ·exact ⟨_,S,_,_,rfl,.base (.one (.none e y)),.skip (by simp) (by simp) .nil,by simp [Zx],XD.refl _ _ _,fun _ _ h=>h,fun _ _ h=>.inl h,hs⟩
   ·have hh : (w.alloc (.cells #[] t)).heap = w.heap.push (.cells #[] t):=rfl
    refine ⟨_,S,_,_,rfl,.base (.one (.none e y)),.skip (by simp) (by simp) .nil,by simp [Zx],⟨rfl,rfl,rfl,by rw [hh]; simp,fun b hb _=>(by rw [hh]; simp [Array.getElem?_push,Nat.ne_of_lt hb]),fun b arr T _ ha=>⟨arr,T,(by rw [hh,Array.getElem?_push]; have hb:=XU ha; simp [Nat.ne_of_lt hb,ha]),Nat.le_refl _⟩⟩,fun _ _ h=>h,fun _ _ h=>.inl h,fun b o h=>by have:=hs b o h; rw [hh]; simp; omega⟩
 ·exact (h1 l hl _ hFr).2 S w ks hh _ vs r outs hg hs ha hk (by simp)
@[simp] theorem ZtU {n : Nat} {k : IntKind} {l : List Int} (h : l.length = n) : arC k (⟨l,h⟩ : Arr n) = ints k l:=rfl
@[simp] theorem Ztm {k : IntKind} : ints k [] = []:=rfl
@[simp] theorem Zs3 {k : IntKind} {x : Int} {l : List Int} : ints k (x :: l) = .v (.int k x) :: ints k l:=rfl
end Go.Av
end
section
namespace Go.Av
open Go.RowKit
set_option linter.unusedVariables false
def mput {K V : Type} [DecidableEq K] (k : K) (v : V) : List (K×V)→List (K×V)
 | []=>[(k,v)]
 | (a,w) :: l=>if k = a then (k,v) :: l else (a,w) :: mput k v l
section
variable {K V : Type} [DecidableEq K] {n : Nat} {eK : K→List Cell} {eV : V→List Cell}
end
@[simp] theorem Zlq {n : Nat} {k k' : IntKind} {a b : Arr n} {s t : List Cell} : kEq (arC k a++s) (arC k' b++t) = (decide (a = b) && kEq s t):=by
 have h : ∀ {l m : List Int},l.length = m.length→kEq (ints k l++s) (ints k' m++t) = ((l == m) && kEq s t):=by
  intro l;induction l with
  | nil=>intro m h; cases m with
   | nil=>simp [ints]
   | cons y m=>simp at h
  | cons x l ih=>intro m h; cases m with
   | nil=>simp at h
   | cons y m =>
    have:=ih (m:=m) (by simpa using h);simp only [ints] at this;simp only [ints,List.map_cons,List.cons_append,kEq,kEq1,this,List.cons_beq_cons,Bool.and_assoc]
 unfold arC;rw [h (by rw [a.hl,b.hl])]
 have e : (a.l == b.l) = decide (a = b):=by
  cases a; cases b
  rw [Bool.eq_iff_iff];simp
 rw [e]
@[simp] theorem ZtV {n : Nat} {k k' : IntKind} {a b : Arr n} : kEq (arC k a) (arC k' b) = decide (a = b):=by
 have:=Zlq (k:=k) (k' := k') (a:=a) (b:=b) (s:=[]) (t:=[]);simpa [kEq] using this
@[simp] theorem Zj6 {n : Nat} {k : IntKind} {a b : Arr n} {s t : List Cell} : kKind (arC k a++s) (arC k b++t) = kKind s t:=by
 have h : ∀ {l m : List Int},l.length = m.length→kKind (ints k l++s) (ints k m++t) = kKind s t:=by
  intro l;induction l with
  | nil=>intro m h; cases m with
   | nil=>simp [ints]
   | cons y m=>simp at h
  | cons x l ih=>intro m h; cases m with
   | nil=>simp at h
   | cons y m =>
    have:=ih (m:=m) (by simpa using h);simp only [ints] at this;simp [ints,kKind,kKind1,this]
 unfold arC;exact h (by rw [a.hl,b.hl])
@[simp] theorem Zs4 {n : Nat} {k : IntKind} {a b : Arr n} : kKind (arC k a) (arC k b) = true:=by
 have:=Zj6 (k:=k) (a:=a) (b:=b) (s:=[]) (t:=[]);simpa [kKind] using this
@[simp] theorem ZtW {n : Nat} {k : IntKind} {a : Arr n} : (arC k a).all Cell.isI = true:=by simp [arC,ints,Cell.isI]
def Zpp (l : List Int) : ByteArray:=⟨(l.map fun n=>UInt8.ofNat n.toNat).toArray⟩
def ZnA (s : ByteArray) : List Int:=s.data.toList.map fun b=>(b.toNat : Int)
@[simp] theorem Zra (l : List Int) : ZhK (Ze .u8 l) = some (Zpp l):=by
 have : bytesL (Ze .u8 l) = some (l.map fun n=>UInt8.ofNat n.toNat):=by
  induction l with
  | nil=>rfl
  | cons x l ih=>simp only [Ze,List.map_cons] at *; simp [bytesL,byteOf,ih]
 simp [ZhK,this,Zpp]
@[simp] theorem Zsr (s : ByteArray) : (s.data.toList.map fun b=>[Cell.v (.int .u8 (b.toNat : Int))]) = Ze .u8 (ZnA s):=by simp [Ze,ZnA]
@[simp] theorem Zr6 (bx : Boxes) (o : Own) (els : List (List Cell)) : ZdA bx (.slice o els) = some els:=rfl
@[simp] theorem Ztn (a b : ByteArray) : pureOf (Op.stringOp .eql a b) = some (.bool (decide (a = b))):=by
 have : (a == b) = decide (a = b):=by
  rw [Bool.eq_iff_iff,MapKept.bytes_beq];simp
 show some (Value.bool (a.toList == b.toList)) = _
 rw [← beq_toListBytes,this]
@[simp] theorem Zto (a b : ByteArray) : pureOf (Op.stringOp .neq a b) = some (.bool (!decide (a = b))):=by
 have : (a == b) = decide (a = b):=by
  rw [Bool.eq_iff_iff,MapKept.bytes_beq];simp
 show some (Value.bool (!(a.toList == b.toList))) = _
 rw [← beq_toListBytes,this]
end Go.Av
end
section
namespace Go.Lc
open Go.RowKit
open Go.Av
set_option maxRecDepth 100000
set_option linter.unusedSimpArgs false
set_option linter.unusedVariables false
abbrev Tapi_OutPoint:=(Arr 32)×Int
abbrev Tapi_Output:=Int×(List Int)
abbrev Tapi_Coin:=Tapi_OutPoint×Tapi_Output×Int×Bool
abbrev Tapi_Input:=Tapi_OutPoint×Int×(List (List Int))
abbrev Tapi_Tx:=Int×(List Tapi_Input)×(List Tapi_Output)×Int
noncomputable def ZaX (a0 : (List Int)) (a1 : (List Int)) : Option ((List Int)) :=
 (chk (0≤IntKind.i64.wrap ((a0.length : Int) + (a1.length : Int))∧IntKind.i64.wrap ((a0.length : Int) + (a1.length : Int))≤140737488355328)).bind fun _=>(chk (a0.length≤140737488355328)).bind fun _=>(chk (a0.length + a1.length≤140737488355328)).bind fun _=>some (a0++a1)
noncomputable def ZdT (p9 : (List Int)) : Option (List Int) :=
 some (p9)
noncomputable def Zbp (a1 : Int) (a0 : Int) : (Int×(List Int))→Option ((Int×(List Int)) ⊕ ((List Int)))
 | (p8,p9)=>(if p8 < a1 then (chk (¬ (IntKind.i64.wrap (8 * p8) < 0))).bind fun _=>(inA (p9.length) (p8)).bind fun j13=>some (.inl (IntKind.i64.wrap (p8 + 1),(p9).set j13 (IntKind.u8.wrap ((a0).fdiv (2 ^ (min (IntKind.i64.wrap (8 * p8)).toNat 64)))))) else (ZdT p9).map Sum.inr)
noncomputable def ZaY (a0 : Int) (a1 : Int) : Option ((List Int)) :=
 (chk (0≤a1∧a1≤140737488355328)).bind fun _=>Zg (Zbp a1 a0) (0,List.replicate ((a1).toNat) 0)
noncomputable def Xg (a0 : (List Int)) (a1 : Int) : Option ((List Int)) :=
 (ZaY (IntKind.u64.wrap (a1)) 4).bind fun y1=>(ZaX a0 y1).bind fun y2=>some (y2)
noncomputable def Xu (a0 : (List Int)) (a1 : (Arr 32)) : Option ((List Int)) :=
 (ZaX a0 a1.l).bind fun y1=>some (y1)
noncomputable def ZjQ (a0 : Tapi_OutPoint) : Option ((List Int)) :=
 (Xu ([] : (List Int)) a0.1).bind fun y1=>(Xg y1 a0.2).bind fun y2=>some (y2)
noncomputable def ZaZ (a0 : (List Int)) (a1 : (List Int)) : Option ((List Int)) :=
 (chk (0≤IntKind.i64.wrap ((a0.length : Int) + (a1.length : Int))∧IntKind.i64.wrap ((a0.length : Int) + (a1.length : Int))≤140737488355328)).bind fun _=>(chk (a0.length≤140737488355328)).bind fun _=>(chk (a0.length + a1.length≤140737488355328)).bind fun _=>some (a0++a1)
noncomputable def ZdU (p9 : (List Int)) : Option (List Int) :=
 some (p9)
noncomputable def Zbq (a1 : Int) (a0 : Int) : (Int×(List Int))→Option ((Int×(List Int)) ⊕ ((List Int)))
 | (p8,p9)=>(if p8 < ((List.replicate ((a1).toNat) 0).length : Int) then (chk (¬ (IntKind.i64.wrap (8 * p8) < 0))).bind fun _=>(inA (p9.length) (p8)).bind fun j13=>some (.inl (IntKind.i64.wrap (p8 + 1),(p9).set j13 (IntKind.u8.wrap ((a0).fdiv (2 ^ (min (IntKind.i64.wrap (8 * p8)).toNat 64)))))) else (ZdU p9).map Sum.inr)
noncomputable def Za0 (a0 : Int) (a1 : Int) : Option ((List Int)) :=
 (chk (0≤a1∧a1≤140737488355328)).bind fun _=>Zg (Zbq a1 a0) (0,List.replicate ((a1).toNat) 0)
noncomputable def X8 (a0 : (List Int)) (a1 : Int) : Option ((List Int)) :=
 (Za0 (IntKind.u64.wrap (a1)) 4).bind fun y1=>(ZaZ a0 y1).bind fun y2=>some (y2)
noncomputable def XY (a0 : (List Int)) (a1 : (Arr 32)) : Option ((List Int)) :=
 (ZaZ a0 a1.l).bind fun y1=>some (y1)
def ZiR (x : (Arr 32)) : Prop:=∀ a∈x.l,(0≤a∧a≤255)
def ZgU (x : (List Int)) : Prop:=x.length≤maxLen∧∀ a∈x,(0≤a∧a≤255)
end Go.Lc
end
section
namespace Go.Av
open Go.RowKit
set_option linter.unusedVariables false
theorem ZnB {α : Type} {enc : α→List PV} {g : α→Option (PV×List (List Cell))} {ps : List PV} (h : ∀ a,enc a = ps→False) : XG enc g ps = none:=by
 rcases hx : XG enc g ps with _ | r
 ·rfl
 ·obtain ⟨a,ha,_⟩:=ZcS hx
  exact (h a ha.symm).elim
def Zir (n : Nat) (l : List Int) : Arr n:=if h : n≤l.length then ⟨l.take n,by simp [h]⟩ else zA n
theorem Zht {k : IntKind} (l : List Int) : (Ze k l).flatten = ints k l:=by
 induction l with
 | nil=>rfl
 | cons x l ih=>simp only [Ze,ints,List.map_cons,List.flatten_cons] at *; rw [ih]; rfl
theorem ZnC {k : IntKind} {l : List Int} {o n : Nat} (h : o + n≤l.length) : List.take n (List.drop o (Ze k l).flatten) = arC k (Zir n (l.drop o)):=by
 have h' : n≤(l.drop o).length:=by simp; omega
 unfold Zir;rw [dif_pos h',Zht];simp [arC,ints,List.map_take,List.map_drop]
@[simp high] theorem ZqU {k : IntKind} {l : List Int} : (Ze k l).flatten.length = l.length:=by rw [Zht]; simp [ints]
def Arr.over {n : Nat} (a : Arr n) (l : List Int) : Arr n:=⟨l.take n++a.l.drop (min l.length n),by have:=a.hl; simp; omega⟩
theorem ZoS {k : IntKind} {n : Nat} {a : Arr n} {l : List Int} : ZP (arC k a) 0 (List.take (min l.length n) (Ze k l)).flatten = arC k (a.over l):=by
 have e : (List.take (min l.length n) (Ze k l)).flatten = ints k (l.take n):=by
  rw [← ZfM,Zht]
  congr 1
  rcases Nat.le_total l.length n with h | h
  ·rw [Nat.min_eq_left h,List.take_of_length_le h,List.take_of_length_le (Nat.le_refl _)]
  ·rw [Nat.min_eq_right h]
 rw [e];unfold ZP arC Arr.over;simp [ints,Nat.min_comm]
@[simp] theorem sg_u8 : IntKind.u8.signed = false:=rfl
@[simp] theorem mx_u8 : IntKind.u8.max = 255:=rfl
@[simp] theorem sg_u16 : IntKind.u16.signed = false:=rfl
@[simp] theorem mx_u16 : IntKind.u16.max = 65535:=rfl
@[simp] theorem sg_u32 : IntKind.u32.signed = false:=rfl
@[simp] theorem mx_u32 : IntKind.u32.max = 4294967295:=rfl
@[simp] theorem sg_u64 : IntKind.u64.signed = false:=rfl
@[simp] theorem mx_u64 : IntKind.u64.max = 18446744073709551615:=rfl
@[simp] theorem sg_i8 : IntKind.i8.signed = true:=rfl
@[simp] theorem sg_i16 : IntKind.i16.signed = true:=rfl
@[simp] theorem sg_i32 : IntKind.i32.signed = true:=rfl
@[simp] theorem sg_i64 : IntKind.i64.signed = true:=rfl
theorem Xh {α β : Type} {enc : α→List PV} (hi : ∀ a b,enc a = enc b→a = b) {g : α→Option β} {R : α→β→PV×List (List Cell)} {x : α} {y : β} (h : g x = some y) : XG enc (fun x=>(g x).map (R x)) (enc x) = some (R x y):=by
 rw [ZpO hi,h]; rfl
theorem mkI {P : Program} {tt : TT} {T : Tab} {G : Glob} {α β : Type} {enc : α→List PV} {g : α→Option β} {R : α→β→PV×List (List Cell)} (hm : P.follows .mixedOrders = true) (htt : ∀ t i,tt t = some i→Yr P t = some i) (hT : ∀ f F,T f = some F→Zbz P G (f % 1000000) F) {f : FuncId} {fn : Func} {c : Code}
  (hf : P.funcs[f]? = some fn) (hb : fn.body = some c) (hname : (fn.name == "runtime.NumGoroutine") = false) (w : ∀ x y,g x = some y→∃ kp fl n,Y8 tt T G kp fl n fn (enc x) = some (R x y)) : Zi P G f (XG enc fun x=>(g x).map (R x)) :=
 Zjj hm htt hT hf hb hname fun ps r ho hF=>by
  obtain ⟨x,rfl,h⟩:=ZcS hF;obtain ⟨y,hy,rfl⟩:=Option.map_eq_some_iff.1 h;exact w x y hy
@[simp] theorem ba_beq (a b : ByteArray) : (a == b) = true↔a = b:=by
 obtain ⟨a⟩:=a;obtain ⟨b⟩:=b;have : ((⟨a⟩ : ByteArray) == ⟨b⟩) = (a == b):=rfl;rw [this];simp
@[simp] theorem Ztp {k : IntKind} {l : List Int} : Ze k l.tail = (Ze k l).tail:=by simp [Ze]
theorem ZiS {P : Program} {G : Glob} {f : FuncId} {fn : Func} {c : Code} {F : List PV→Option (PV×List (List Cell))} (hf : P.funcs[f]? = some fn) (hb : fn.body = some c) (hname : (fn.name == "runtime.NumGoroutine") = false) (hF : ∀ ps,F ps = none) : Zi P G f F :=
 ⟨⟨fn,hf,by rw [hb]; rfl,hname⟩,fun S w ks hs ps vs r outs _ _ _ _ h=>by rw [hF] at h; cases h⟩
theorem ZiT {α β : Type} {enc : α→List PV} {g : α→Option β} {R : α→β→PV×List (List Cell)} (h : ∀ x,g x = none) : ∀ ps,XG enc (fun x=>(g x).map (R x)) ps = none:=by
 intro ps;unfold XG;split
 ·simp only [h]; rfl
 ·rfl
noncomputable def Zhu {α : Type} (g : Nat→Option α) : Option α:=by
 classical
 exact if h : ∃ n,(g n).isSome = true then g (Classical.choose h) else none
theorem ZnD {α : Type} {g : Nat→Option α} {y : α} (h : Zhu g = some y) : ∃ n,g n = some y:=by
 unfold Zhu at h;split at h
 ·exact ⟨_,h⟩
 ·cases h
theorem ZpS {α : Type} {g : Nat→Option α} {y : α} (h : ∀ n x,g n = some x→x = y) (hn : ∃ n,g n = some y) : Zhu g = some y:=by
 obtain ⟨n,hn⟩:=hn;have hx : ∃ n,(g n).isSome = true:=⟨n,by rw [hn]; rfl⟩
 unfold Zhu;rw [dif_pos hx];obtain ⟨x,hx'⟩:=Option.isSome_iff_exists.1 (Classical.choose_spec hx);rw [hx',h _ _ hx']
theorem ZkO {P : Program} {G : Glob} {f : FuncId} {α β : Type} {enc : α→List PV} {g : Nat→α→Option β} {R : α→β→PV×List (List Cell)} (h : ∀ n,Zi P G f (XG enc fun x=>(g n x).map (R x))) : Zi P G f (XG enc fun x=>(Zhu fun n=>g n x).map (R x)):=by
 refine ⟨(h 0).1,fun S w ks hs ps vs r outs a1 a2 a3 a4 hF=>?_⟩;unfold XG at hF;split at hF
 ·rename_i he
  obtain ⟨y,hy,hr⟩:=Option.map_eq_some_iff.1 hF;obtain ⟨n,hn⟩:=ZnD hy;refine (h n).2 S w ks hs ps vs r outs a1 a2 a3 a4 ?_;unfold XG;rw [dif_pos he];simp only [hn];simpa using hr
 ·cases hF
theorem pq : (∀ {id : Nat} {Q : AE→ASt→Prop} {s : ASt} {i : Nat},Zfs id Q (.exit i) s = if i = id then Q .normal s else Q (.exit i) s)∧(∀ {id : Nat} {Q : AE→ASt→Prop} {s : ASt},Zfs id Q .normal s = Q .normal s)∧(∀ {id : Nat} {Q : AE→ASt→Prop} {s : ASt},Zfs id Q .ret s = Q .ret s) ∧
  (∀ {K : ASt→Prop} {Q : AE→ASt→Prop} {s : ASt},Zeh K Q .normal s = K s)∧(∀ {K : ASt→Prop} {Q : AE→ASt→Prop} {s : ASt} {i : Nat},Zeh K Q (.exit i) s = Q (.exit i) s)∧(∀ {K : ASt→Prop} {Q : AE→ASt→Prop} {s : ASt},Zeh K Q .ret s = Q .ret s) ∧
  (∀ {σ ρ : Type} {kq : Kp} {H : σ→ASt} {Q : AE→ASt→Prop} {r : ρ} {s : σ},QL kq H Q r (.inl s) = Zeh (fun st=>Za5 kq st = H s) fun _ _=>False)∧(∀ {σ ρ : Type} {kq : Kp} {H : σ→ASt} {Q : AE→ASt→Prop} {r r' : ρ},QL kq H Q r (.inr r') = Zeh (fun _=>False) fun e st=>r' = r→Q e st) ∧
  (∀ {a b : Prop},(if True then a else b) = a)∧(∀ {a b : Prop},(if False then a else b) = b) :=
 ⟨rfl,rfl,rfl,rfl,rfl,rfl,rfl,rfl,by simp,by simp⟩
theorem nf : (∀ {k : IntKind},Ze k [] = [])∧(∀ {k : IntKind} {x : Int} {l : List Int},Ze k (x :: l) = [.v (.int k x)] :: Ze k l)∧(∀ {k : IntKind} {l m : List Int},Ze k (l++m) = Ze k l++Ze k m)∧(∀ {k : IntKind} {l : List Int} {n : Nat},Ze k (l.take n) = (Ze k l).take n) ∧
  (∀ {k : IntKind} {l : List Int} {n : Nat},Ze k (l.drop n) = (Ze k l).drop n)∧(∀ {k : IntKind} {l : List Int} {n : Nat} {x : Int},Ze k (l.set n x) = (Ze k l).set n [.v (.int k x)])∧(∀ {k : IntKind} {n : Nat} {x : Int},Ze k (List.replicate n x) = List.replicate n [.v (.int k x)]) ∧
  (∀ {α β : Type} {f : α→β},List.map f [] = [])∧(∀ {α β : Type} {f : α→β} {a : α} {l : List α},List.map f (a :: l) = f a :: List.map f l)∧(∀ {α β : Type} {f : α→β} {l m : List α},List.map f (l++m) = List.map f l++List.map f m)∧(∀ {α β : Type} {f : α→β} {l : List α} {n : Nat},List.map f (l.take n) = (List.map f l).take n) ∧
  (∀ {α β : Type} {f : α→β} {l : List α} {n : Nat},List.map f (l.drop n) = (List.map f l).drop n)∧(∀ {α β : Type} {f : α→β} {l : List α} {n : Nat} {x : α},List.map f (l.set n x) = (List.map f l).set n (f x))∧(∀ {α β : Type} {f : α→β} {n : Nat} {x : α},List.map f (List.replicate n x) = List.replicate n (f x)) ∧
  (∀ {α : Type} {l : List α},[]++l = l)∧(∀ {α : Type} {x : α} {l m : List α},x :: l++m = x :: (l++m))∧(∀ {α : Type} {l m n : List α},l++m++n = l++(m++n)) :=
 ⟨Zhs,ZgT,Y6,ZfM,ZkN,Zb,ZjP,List.map_nil,List.map_cons,List.map_append,List.map_take,List.map_drop,List.map_set,List.map_replicate,List.nil_append _,List.cons_append,List.append_assoc _ _ _⟩
theorem bs {α β : Type} {o : Option α} {f : α→Option β} {y : β} (h : o.bind f = some y) : ∃ x,o = some x∧f x = some y:=Option.bind_eq_some_iff.1 h
theorem ms {α β : Type} {o : Option α} {f : α→β} {y : β} (h : o.map f = some y) : ∃ x,o = some x∧f x = y:=Option.map_eq_some_iff.1 h
theorem ZmN {e n : Nat} {L : List (List Cell)} (h : ∀ l∈L,l.length = e) (hn : L.length = n) : X0 e n L.flatten = L:=by
 subst hn;exact Ze6 h
theorem Z1 {k : IntKind} {n : Nat} {l : List Int} (h : l.length = n) : X0 1 n (Ze k l).flatten = Ze k l :=
 ZmN (fun x hx=>intsR_all x hx) (by simpa [Ze] using h)
theorem ZkP {P : Program} {G : Glob} {f : FuncId} {fn : Func} {k k' : IntKind} {g : Int→Int} {ok : Int→Prop} (hfn : P.funcs[f]? = some fn) (hb : fn.body.isNone = false) (hnm : (fn.name == "runtime.NumGoroutine") = false)
  (F : List PV→Option (PV×List (List Cell))) (hF : ∀ ps r,F ps = some r→∃ x,ok x∧ps = [.one (.v (.int k x))]∧r = (.one (.v (.int k' (g x))),[]))
  (h : ∀ x w,ok x→Calls P f #[.int k x] w fun e w'=>e = .returned (.int k' (g x))∧w' = w) : Zi P G f F:=by
 refine ⟨⟨fn,hfn,hb,hnm⟩,?_⟩;intro S w ks hh ps vs r outs hg hs ha hk hFr;obtain ⟨x,hx,rfl,hr⟩:=hF ps _ hFr;injection hr with hr1 hr2;subst hr1 hr2;cases ha with
 | one ha1 ha =>
  cases ha
  cases ha1 with
  | pure ha1 =>
   cases ha1 with
   | v _ h1 h2 =>
    refine (h x w hx).mono ?_;rintro ee w' ⟨rfl,rfl⟩
    exact ⟨_,S,_,_,rfl,.base (.one (.pure (.v _ (by rfl) (by simp)))),.skip (by simp) (by simp) .nil,by simp [Zx],XD.refl _ _ _,fun _ _ h=>h,fun _ _ h=>.inl h,hs⟩
theorem ZnE {P : Program} {G : Glob} {f : FuncId} {k : IntKind} {p q : Nat→Nat→Nat→Nat} {ok : Nat→Nat→Nat→Prop} {F : List PV→Option (PV×List (List Cell))}
  (hF : ∀ ps r,F ps = some r→∃ x y b : Nat,ok x y b∧ps = [.one (.v (.int k x)),.one (.v (.int k y)),.one (.v (.int k b))]∧r = (.tup [.one (.v (.int k (p x y b))),.one (.v (.int k (q x y b)))],[]))
  (h : ∀ (x y b : Nat) (w : World),ok x y b→(callFunc f #[.int k x,.int k y,.int k b]).run P w = .ok (.value (.tuple #[.int k (p x y b : Nat),.int k (q x y b : Nat)])) w) : Zmr P G f F:=by
 intro S w ks hh ps vs r outs hg hs ha hk hFr;obtain ⟨x,y,b,hx,rfl,hr⟩:=hF ps _ hFr;injection hr with hr1 hr2;subst hr1 hr2;cases ha with
 | one a1 ha=>cases ha with
  | one a2 ha=>cases ha with
   | one a3 ha =>
    cases ha
    cases a1 with
    | pure a1=>cases a2 with
     | pure a2=>cases a3 with
      | pure a3 =>
       cases a1 with
       | v _ _ _=>cases a2 with
        | v _ _ _=>cases a3 with
         | v _ _ _ =>
          exact ⟨_,S,_,_,h x y b w hx,.tup (.cons (.one (.pure (.v _ (by rfl) (by simp)))) (.cons (.one (.pure (.v _ (by rfl) (by simp)))) .nil)),.skip (by simp) (by simp) (.skip (by simp) (by simp) (.skip (by simp) (by simp) .nil)),by simp [Zx],XD.refl _ _ _,fun _ _ h=>h,fun _ _ h=>.inl h,hs⟩
@[simp] theorem Zss {L : List (List Cell)} : YI L.flatten = ZQ L:=List.all_flatten
@[simp] theorem Zr7 {L : List (List Cell)} : hasSlL L.flatten = L.any hasSlL:=List.any_flatten
@[simp] theorem Zr8 {k : IntKind} {l : List Int} : (Ze k l).any hasSlL = false:=by simp [Ze,hasSlL,Cell.hasSl,List.any_map]
def clr {α : Type} (l : List α) (i n : Nat) (z : α) : List α:=l.take i++(List.replicate (min n (l.length - i)) z++l.drop (i + n))
@[simp] theorem ZmO {α : Type} {l : List α} {i n : Nat} {z : α} : (clr l i n z).length = l.length:=by simp [clr]; omega
@[simp] theorem ZkQ {α : Type} {l : List α} {i n : Nat} {z : α} : (clr l i n z).take i = l.take i:=by
 unfold clr;rcases Nat.le_total i l.length with h | h
 ·rw [List.take_append_of_le_length (by simp [h]),List.take_take,Nat.min_self]
 ·rw [List.take_of_length_le h,show min n (l.length - i) = 0 by omega,List.drop_of_length_le (by omega)]
  simp [List.take_of_length_le h]
@[simp] theorem ZqV {k : IntKind} {l : List Int} {i n : Nat} {z : Int} : List.take i (Ze k (clr l i n z)) = List.take i (Ze k l):=by
 rw [← ZfM,ZkQ,ZfM]
theorem ZoT {k : IntKind} {l : List Int} {i n : Nat} (h : i + n≤l.length) : List.take i (Ze k l)++(List.replicate n [.v (.int k 0)]++List.drop (i + n) (Ze k l)) = Ze k (clr l i n 0):=by
 simp [clr,show min n (l.length - i) = n by omega]
end Go.Av
end
section
namespace Go.Lc
open Go.RowKit
open Go.Av
set_option maxRecDepth 100000
set_option linter.unusedSimpArgs false
set_option linter.unusedVariables false
abbrev Tapi_Entry:=Tapi_Tx×Int
def shaInitial : Arr 8:=⟨[1779033703,3144134277,1013904242,2773480762,1359893119,2600822924,528734635,1541459225],rfl⟩
def shaK : Arr 64:=⟨[1116352408,1899447441,3049323471,3921009573,961987163,1508970993,2453635748,2870763221,3624381080,310598401,607225278,1426881987,1925078388,2162078206,2614888103,3248222580,3835390401,4022224774,264347078,604807628,770255983,1249150122,1555081692,1996064986,2554220882,2821834349,2952996808,3210313671,3336571891,3584528711,113926993,338241895,666307205,773529912,1294757372,1396182291,1695183700,1986661051,2177026350,2456956037,2730485921,2820302411,3259730800,3345764771,3516065817,3600352804,4094571909,275423344,430227734,506948616,659060556,883997877,958139571,1322822218,1537002063,1747873779,1955562222,2024104815,2227730452,2361852424,2428436474,2756734187,3204031479,3329325298],rfl⟩
noncomputable def Zib (p8 : (List Int)) : Option (List Int) :=
 some (p8)
noncomputable def Zdq (a0 : (List (List Int))) : (Int×(List Int))→Option ((Int×(List Int)) ⊕ ((List Int)))
 | (p7,p8)=>(if p7 < (a0.length : Int) then (idx (a0) (p7)).bind fun x11=>(chk (p8.length + x11.length≤140737488355328)).bind fun _=>some (.inl (IntKind.i64.wrap (p7 + 1),p8++x11)) else (Zib p8).map Sum.inr)
noncomputable def ZeA (a0 : (List (List Int))) : Option ((List Int)) :=
 Zg (Zdq a0) (0,[])
noncomputable def Zic (p10 : (List Int)) : Option (List Int) :=
 some (p10)
noncomputable def Zdr (a0 : Int) : (Int×(List Int))→Option ((Int×(List Int)) ⊕ ((List Int)))
 | (p9,p10)=>(if p9 < 8 then (chk (¬ (IntKind.i64.wrap (56 - (IntKind.i64.wrap (8 * p9))) < 0))).bind fun _=>(chk (p10.length + 1≤140737488355328)).bind fun _=>some (.inl (IntKind.i64.wrap (p9 + 1),p10++[IntKind.u8.wrap ((IntKind.u64.wrap (8 * a0)).fdiv (2 ^ (min (IntKind.i64.wrap (56 - (IntKind.i64.wrap (8 * p9)))).toNat 64)))])) else (Zic p10).map Sum.inr)
noncomputable def ZeB (a0 : Int) : Option ((List Int)) :=
 (chk (0≤IntKind.u64.wrap (1 + ((IntKind.u64.wrap (64 - ((IntKind.u64.wrap (a0 + 9)).tmod 64))).tmod 64))∧IntKind.u64.wrap (1 + ((IntKind.u64.wrap (64 - ((IntKind.u64.wrap (a0 + 9)).tmod 64))).tmod 64))≤IntKind.u64.wrap (9 + ((IntKind.u64.wrap (64 - ((IntKind.u64.wrap (a0 + 9)).tmod 64))).tmod 64))∧IntKind.u64.wrap (9 + ((IntKind.u64.wrap (64 - ((IntKind.u64.wrap (a0 + 9)).tmod 64))).tmod 64))≤140737488355328)).bind fun _=>(chk (0 < (List.replicate ((IntKind.u64.wrap (1 + ((IntKind.u64.wrap (64 - ((IntKind.u64.wrap (a0 + 9)).tmod 64))).tmod 64))).toNat) 0).length)).bind fun _=>Zg (Zdr a0) (0,(List.replicate ((IntKind.u64.wrap (1 + ((IntKind.u64.wrap (64 - ((IntKind.u64.wrap (a0 + 9)).tmod 64))).tmod 64))).toNat) 0).set 0 128)
noncomputable def Xc (a0 : Int) (a1 : Int) : Option (Int) :=
 (chk (¬ (bits .and .u64 (IntKind.u64.wrap (a1)) 31 < 0))).bind fun _=>(chk (¬ (IntKind.u64.wrap (32 - (bits .and .u64 (IntKind.u64.wrap (a1)) 31)) < 0))).bind fun _=>some (bits .or .u32 (IntKind.u32.wrap (a0 * (2 ^ (min (bits .and .u64 (IntKind.u64.wrap (a1)) 31).toNat 32)))) ((a0).fdiv (2 ^ (min (IntKind.u64.wrap (32 - (bits .and .u64 (IntKind.u64.wrap (a1)) 31))).toNat 32))))
noncomputable def XI (a0 : Int) (a1 : Int) : Option (Int) :=
 (Xc a0 (IntKind.i64.wrap (-a1))).bind fun y1=>some (y1)
noncomputable def ZfN (p52 : (Arr 64)) : Option (Arr 64) :=
 some (p52)
noncomputable def Lsha_schedule_s2 : (Int×(Arr 64))→Option ((Int×(Arr 64)) ⊕ ((Arr 64)))
 | (p51,p52)=>(if p51 < 64 then (inA (64) (IntKind.i64.wrap (p51 - 15))).bind fun j62=>(XI (p52.at j62) 7).bind fun y63=>(XI (p52.at j62) 18).bind fun y64=>(inA (64) (IntKind.i64.wrap (p51 - 2))).bind fun j65=>(XI (p52.at j65) 17).bind fun y66=>(XI (p52.at j65) 19).bind fun y67=>(inA (64) (IntKind.i64.wrap (p51 - 16))).bind fun j68=>(inA (64) (IntKind.i64.wrap (p51 - 7))).bind fun j69=>(inA (64) (p51)).bind fun j70=>some (.inl (IntKind.i64.wrap (p51 + 1),p52.put j70 (IntKind.u32.wrap ((IntKind.u32.wrap ((IntKind.u32.wrap ((p52.at j68) + (bits .xor .u32 (bits .xor .u32 y63 y64) ((p52.at j62).fdiv 8)))) + (p52.at j69))) + (bits .xor .u32 (bits .xor .u32 y66 y67) ((p52.at j65).fdiv 1024)))))) else (ZfN p52).map Sum.inr)
noncomputable def Zck (p21 : (Arr 64)) : Option (Arr 64) :=
 Zg (Lsha_schedule_s2) (16,p21)
noncomputable def ZdV (p20 : Int) (p78 : (Arr 64)) : Option ((Int×(Arr 64)) ⊕ ((Arr 64))) :=
 some (.inl (IntKind.i64.wrap (p20 + 1),p78))
noncomputable def Zaa (p20 : Int) (a0 : (Arr 64)) : (Int×(Arr 64))→Option ((Int×(Arr 64)) ⊕ ((Int×(Arr 64)) ⊕ ((Arr 64))))
 | (p77,p78)=>(if p77 < 4 then (inA (64) (p20)).bind fun j81=>(inA (64) (IntKind.i64.wrap ((IntKind.i64.wrap (4 * p20)) + p77))).bind fun j82=>some (.inl (IntKind.i64.wrap (p77 + 1),p78.put j81 (bits .or .u32 (IntKind.u32.wrap ((p78.at j81) * 256)) (IntKind.u32.wrap (a0.at j82))))) else (ZdV p20 p78).map Sum.inr)
noncomputable def Zbr (a0 : (Arr 64)) : (Int×(Arr 64))→Option ((Int×(Arr 64)) ⊕ ((Arr 64)))
 | (p20,p21)=>(if p20 < 16 then Zg (Zaa p20 a0) (0,p21) else (Zck p21).map Sum.inr)
noncomputable def ZbC (a0 : (Arr 64)) : Option ((Arr 64)) :=
 Zg (Zbr a0) (0,zA 64)
noncomputable def ZfO (a0 : (Arr 8)) (p24 : Int) (p25 : Int) (p26 : Int) (p27 : Int) (p28 : Int) (p29 : Int) (p30 : Int) (p31 : Int) : Option (Arr 8) :=
 some (((((((((zA 8).put 0 (IntKind.u32.wrap ((a0.at 0) + p24))).put 1 (IntKind.u32.wrap ((a0.at 1) + p25))).put 2 (IntKind.u32.wrap ((a0.at 2) + p26))).put 3 (IntKind.u32.wrap ((a0.at 3) + p27))).put 4 (IntKind.u32.wrap ((a0.at 4) + p28))).put 5 (IntKind.u32.wrap ((a0.at 5) + p29))).put 6 (IntKind.u32.wrap ((a0.at 6) + p30))).put 7 (IntKind.u32.wrap ((a0.at 7) + p31)))
noncomputable def Zbs (y1 : ((Arr 64))) (a0 : (Arr 8)) : (Int×Int×Int×Int×Int×Int×Int×Int×Int)→Option ((Int×Int×Int×Int×Int×Int×Int×Int×Int) ⊕ ((Arr 8)))
 | (p24,p25,p26,p27,p28,p29,p30,p31,p32)=>(if p32 < 64 then (XI p28 6).bind fun y40=>(XI p28 11).bind fun y41=>(XI p28 25).bind fun y42=>(inA (64) (p32)).bind fun j43=>(XI p24 2).bind fun y44=>(XI p24 13).bind fun y45=>(XI p24 22).bind fun y46=>some (.inl (IntKind.u32.wrap ((IntKind.u32.wrap ((IntKind.u32.wrap ((IntKind.u32.wrap ((IntKind.u32.wrap (p31 + (bits .xor .u32 (bits .xor .u32 y40 y41) y42))) + (bits .xor .u32 (bits .and .u32 p28 p29) (bits .and .u32 (bits .xor .u32 4294967295 p28) p30)))) + (shaK.at j43))) + (y1.at j43))) + (IntKind.u32.wrap ((bits .xor .u32 (bits .xor .u32 y44 y45) y46) + (bits .xor .u32 (bits .xor .u32 (bits .and .u32 p24 p25) (bits .and .u32 p24 p26)) (bits .and .u32 p25 p26))))),p24,p25,p26,IntKind.u32.wrap (p27 + (IntKind.u32.wrap ((IntKind.u32.wrap ((IntKind.u32.wrap ((IntKind.u32.wrap (p31 + (bits .xor .u32 (bits .xor .u32 y40 y41) y42))) + (bits .xor .u32 (bits .and .u32 p28 p29) (bits .and .u32 (bits .xor .u32 4294967295 p28) p30)))) + (shaK.at j43))) + (y1.at j43)))),p28,p29,p30,IntKind.i64.wrap (p32 + 1))) else (ZfO a0 p24 p25 p26 p27 p28 p29 p30 p31).map Sum.inr)
noncomputable def ZbD (a0 : (Arr 8)) (a1 : (Arr 64)) : Option ((Arr 8)) :=
 (ZbC a1).bind fun y1=>Zg (Zbs y1 a0) (a0.at 0,a0.at 1,a0.at 2,a0.at 3,a0.at 4,a0.at 5,a0.at 6,a0.at 7,0)
noncomputable def Zid (p24 : (Arr 32)) : Option (Arr 32) :=
 some (p24)
noncomputable def Zds (p12 : (Arr 8)) : (Int×(Arr 32))→Option ((Int×(Arr 32)) ⊕ ((Arr 32)))
 | (p23,p24)=>(if p23 < 32 then (inA (8) (IntKind.i64.wrap ((p23).tdiv 4))).bind fun j28=>(chk (¬ (IntKind.i64.wrap (24 - (IntKind.i64.wrap (((p23).tmod 4) * 8))) < 0))).bind fun _=>(inA (32) (p23)).bind fun j30=>some (.inl (IntKind.i64.wrap (p23 + 1),p24.put j30 (IntKind.u8.wrap ((p12.at j28).fdiv (2 ^ (min (IntKind.i64.wrap (24 - (IntKind.i64.wrap (((p23).tmod 4) * 8)))).toNat 32)))))) else (Zid p24).map Sum.inr)
noncomputable def ZeM (p12 : (Arr 8)) : Option (Arr 32) :=
 Zg (Zds p12) (0,zA 32)
noncomputable def Zdt (y2 : ((List Int))) : (Int×(Arr 8))→Option ((Int×(Arr 8)) ⊕ ((Arr 32)))
 | (p11,p12)=>(if p11 < IntKind.i64.wrap (((y2.length : Int)).tdiv 64) then (chk (0≤IntKind.i64.wrap (64 * p11)∧IntKind.i64.wrap (64 * p11)≤(y2.length : Int))).bind fun _=>(chk (64≤(y2.length - (IntKind.i64.wrap (64 * p11)).toNat))).bind fun _=>(ZbD p12 (Zir 64 ((y2).drop ((IntKind.i64.wrap (64 * p11)).toNat)))).bind fun y33=>some (.inl (IntKind.i64.wrap (p11 + 1),y33)) else (ZeM p12).map Sum.inr)
noncomputable def ZdW (a0 : (List Int)) : Option ((Arr 32)) :=
 (ZeB (IntKind.u64.wrap ((a0.length : Int)))).bind fun y1=>(ZeA [a0,y1]).bind fun y2=>Zg (Zdt y2) (0,shaInitial)
noncomputable def ZcC (a0 : (List Int)) : Option ((Arr 32)) :=
 (ZdW a0).bind fun y1=>(ZdW y1.l).bind fun y2=>some (y2)
end Go.Lc
end
section
namespace Go.Lc
open Go.RowKit
open Go.Av
set_option maxRecDepth 100000
set_option linter.unusedSimpArgs false
set_option linter.unusedVariables false
noncomputable def Zg7 (p13 : (List Int)) : Option (List Int) :=
 some (p13)
noncomputable def ZbE (a0 : Int) : (Int×(List Int))→Option ((Int×(List Int)) ⊕ ((List Int)))
 | (p12,p13)=>(if 0≤p12 then (chk (¬ (IntKind.i64.wrap (8 * p12) < 0))).bind fun _=>(chk (p13.length + 1≤140737488355328)).bind fun _=>some (.inl (IntKind.i64.wrap (p12 - 1),p13++[IntKind.u8.wrap ((IntKind.u64.wrap (8 * a0)).fdiv (2 ^ (min (IntKind.i64.wrap (8 * p12)).toNat 64)))])) else (Zg7 p13).map Sum.inr)
noncomputable def Ze7 (a0 : Int) (p4 : (List Int)) : Option (List Int) :=
 Zg (ZbE a0) (7,p4)
noncomputable def Zct (a0 : Int) : (List Int)→Option (((List Int)) ⊕ ((List Int)))
 | p4=>(if ¬ ((IntKind.u64.wrap ((IntKind.u64.wrap (a0 + (IntKind.u64.wrap ((p4.length : Int))))) + 8)).tmod 64 = 0) then (chk (p4.length + 1≤140737488355328)).bind fun _=>some (.inl (p4++[0])) else (Ze7 a0 p4).map Sum.inr)
noncomputable def Zc9 (a0 : Int) : Option ((List Int)) :=
 Zg (Zct a0) [128]
noncomputable def Lref03_Initial : Option ((Arr 8)) :=
 some (((((((((zA 8).put 0 1779033703).put 1 3144134277).put 2 1013904242).put 3 2773480762).put 4 1359893119).put 5 2600822924).put 6 528734635).put 7 1541459225)
noncomputable def Xi (a0 : Int) (a1 : Int) : Option (Int) :=
 (Xc a0 (IntKind.i64.wrap (-a1))).bind fun y1=>some (y1)
noncomputable def ZeX (p39 : (Arr 64)) : Option (Arr 64) :=
 some (p39)
noncomputable def Lref03_schedule_s2 : (Int×(Arr 64))→Option ((Int×(Arr 64)) ⊕ ((Arr 64)))
 | (p38,p39)=>(if p38 < 64 then (inA (64) (IntKind.i64.wrap (p38 - 15))).bind fun j49=>(Xi (p39.at j49) 7).bind fun y50=>(Xi (p39.at j49) 18).bind fun y51=>(inA (64) (IntKind.i64.wrap (p38 - 2))).bind fun j52=>(Xi (p39.at j52) 17).bind fun y53=>(Xi (p39.at j52) 19).bind fun y54=>(inA (64) (IntKind.i64.wrap (p38 - 16))).bind fun j55=>(inA (64) (IntKind.i64.wrap (p38 - 7))).bind fun j56=>(inA (64) (p38)).bind fun j57=>some (.inl (IntKind.i64.wrap (p38 + 1),p39.put j57 (IntKind.u32.wrap ((IntKind.u32.wrap ((IntKind.u32.wrap ((p39.at j55) + (bits .xor .u32 (bits .xor .u32 y50 y51) ((p39.at j49).fdiv 8)))) + (p39.at j56))) + (bits .xor .u32 (bits .xor .u32 y53 y54) ((p39.at j52).fdiv 1024)))))) else (ZeX p39).map Sum.inr)
noncomputable def ZbQ (p13 : (Arr 64)) : Option (Arr 64) :=
 Zg (Lref03_schedule_s2) (16,p13)
noncomputable def ZaI (a0 : (Arr 64)) : (Int×(Arr 64))→Option ((Int×(Arr 64)) ⊕ ((Arr 64)))
 | (p12,p13)=>(if p12 < 16 then (inA (64) (IntKind.i64.wrap (4 * p12))).bind fun j58=>(inA (64) (IntKind.i64.wrap ((IntKind.i64.wrap (4 * p12)) + 1))).bind fun j59=>(inA (64) (IntKind.i64.wrap ((IntKind.i64.wrap (4 * p12)) + 2))).bind fun j60=>(inA (64) (IntKind.i64.wrap ((IntKind.i64.wrap (4 * p12)) + 3))).bind fun j61=>(inA (64) (p12)).bind fun j62=>some (.inl (IntKind.i64.wrap (p12 + 1),p13.put j62 (bits .or .u32 (bits .or .u32 (bits .or .u32 (IntKind.u32.wrap ((IntKind.u32.wrap (a0.at j58)) * 16777216)) (IntKind.u32.wrap ((IntKind.u32.wrap (a0.at j59)) * 65536))) (IntKind.u32.wrap ((IntKind.u32.wrap (a0.at j60)) * 256))) (IntKind.u32.wrap (a0.at j61))))) else (ZbQ p13).map Sum.inr)
noncomputable def ZaP (a0 : (Arr 64)) : Option ((Arr 64)) :=
 Zg (ZaI a0) (0,zA 64)
noncomputable def Lref03_constants : Option ((Arr 64)) :=
 some (((((((((((((((((((((((((((((((((((((((((((((((((((((((((((((((((zA 64).put 0 1116352408).put 1 1899447441).put 2 3049323471).put 3 3921009573).put 4 961987163).put 5 1508970993).put 6 2453635748).put 7 2870763221).put 8 3624381080).put 9 310598401).put 10 607225278).put 11 1426881987).put 12 1925078388).put 13 2162078206).put 14 2614888103).put 15 3248222580).put 16 3835390401).put 17 4022224774).put 18 264347078).put 19 604807628).put 20 770255983).put 21 1249150122).put 22 1555081692).put 23 1996064986).put 24 2554220882).put 25 2821834349).put 26 2952996808).put 27 3210313671).put 28 3336571891).put 29 3584528711).put 30 113926993).put 31 338241895).put 32 666307205).put 33 773529912).put 34 1294757372).put 35 1396182291).put 36 1695183700).put 37 1986661051).put 38 2177026350).put 39 2456956037).put 40 2730485921).put 41 2820302411).put 42 3259730800).put 43 3345764771).put 44 3516065817).put 45 3600352804).put 46 4094571909).put 47 275423344).put 48 430227734).put 49 506948616).put 50 659060556).put 51 883997877).put 52 958139571).put 53 1322822218).put 54 1537002063).put 55 1747873779).put 56 1955562222).put 57 2024104815).put 58 2227730452).put 59 2361852424).put 60 2428436474).put 61 2756734187).put 62 3204031479).put 63 3329325298)
noncomputable def ZeY (a0 : (Arr 8)) (p25 : Int) (p26 : Int) (p27 : Int) (p28 : Int) (p29 : Int) (p30 : Int) (p31 : Int) (p32 : Int) : Option (Arr 8) :=
 some (((((((((zA 8).put 0 (IntKind.u32.wrap ((a0.at 0) + p25))).put 1 (IntKind.u32.wrap ((a0.at 1) + p26))).put 2 (IntKind.u32.wrap ((a0.at 2) + p27))).put 3 (IntKind.u32.wrap ((a0.at 3) + p28))).put 4 (IntKind.u32.wrap ((a0.at 4) + p29))).put 5 (IntKind.u32.wrap ((a0.at 5) + p30))).put 6 (IntKind.u32.wrap ((a0.at 6) + p31))).put 7 (IntKind.u32.wrap ((a0.at 7) + p32)))
noncomputable def ZaJ (y2 : ((Arr 64))) (y1 : ((Arr 64))) (a0 : (Arr 8)) : (Int×Int×Int×Int×Int×Int×Int×Int×Int)→Option ((Int×Int×Int×Int×Int×Int×Int×Int×Int) ⊕ ((Arr 8)))
 | (p25,p26,p27,p28,p29,p30,p31,p32,p33)=>(if p33 < 64 then (Xi p29 6).bind fun y41=>(Xi p29 11).bind fun y42=>(Xi p29 25).bind fun y43=>(inA (64) (p33)).bind fun j44=>(Xi p25 2).bind fun y45=>(Xi p25 13).bind fun y46=>(Xi p25 22).bind fun y47=>some (.inl (IntKind.u32.wrap ((IntKind.u32.wrap ((IntKind.u32.wrap ((IntKind.u32.wrap ((IntKind.u32.wrap (p32 + (bits .xor .u32 (bits .xor .u32 y41 y42) y43))) + (bits .xor .u32 (bits .and .u32 p29 p30) (bits .and .u32 (bits .xor .u32 4294967295 p29) p31)))) + (y2.at j44))) + (y1.at j44))) + (IntKind.u32.wrap ((bits .xor .u32 (bits .xor .u32 y45 y46) y47) + (bits .xor .u32 (bits .xor .u32 (bits .and .u32 p25 p26) (bits .and .u32 p25 p27)) (bits .and .u32 p26 p27))))),p25,p26,p27,IntKind.u32.wrap (p28 + (IntKind.u32.wrap ((IntKind.u32.wrap ((IntKind.u32.wrap ((IntKind.u32.wrap (p32 + (bits .xor .u32 (bits .xor .u32 y41 y42) y43))) + (bits .xor .u32 (bits .and .u32 p29 p30) (bits .and .u32 (bits .xor .u32 4294967295 p29) p31)))) + (y2.at j44))) + (y1.at j44)))),p29,p30,p31,IntKind.i64.wrap (p33 + 1))) else (ZeY a0 p25 p26 p27 p28 p29 p30 p31 p32).map Sum.inr)
noncomputable def X1 (a0 : (Arr 8)) (a1 : (Arr 64)) : Option ((Arr 8)) :=
 (ZaP a1).bind fun y1=>(Lref03_constants).bind fun y2=>Zg (ZaJ y2 y1 a0) (a0.at 0,a0.at 1,a0.at 2,a0.at 3,a0.at 4,a0.at 5,a0.at 6,a0.at 7,0)
noncomputable def Zg8 (p27 : (Arr 32)) : Option (Arr 32) :=
 some (p27)
noncomputable def Zcu (p12 : (Arr 8)) : (Int×(Arr 32))→Option ((Int×(Arr 32)) ⊕ ((Arr 32)))
 | (p26,p27)=>(if p26 < 8 then (inA (8) (p26)).bind fun j33=>(inA (32) (IntKind.i64.wrap (4 * p26))).bind fun j34=>(inA (32) (IntKind.i64.wrap ((IntKind.i64.wrap (4 * p26)) + 1))).bind fun j35=>(inA (32) (IntKind.i64.wrap ((IntKind.i64.wrap (4 * p26)) + 2))).bind fun j36=>(inA (32) (IntKind.i64.wrap ((IntKind.i64.wrap (4 * p26)) + 3))).bind fun j37=>some (.inl (IntKind.i64.wrap (p26 + 1),(((p27.put j34 (IntKind.u8.wrap ((p12.at j33).fdiv 16777216))).put j35 (IntKind.u8.wrap ((p12.at j33).fdiv 65536))).put j36 (IntKind.u8.wrap ((p12.at j33).fdiv 256))).put j37 (IntKind.u8.wrap (p12.at j33)))) else (Zg8 p27).map Sum.inr)
noncomputable def ZdE (p12 : (Arr 8)) : Option (Arr 32) :=
 Zg (Zcu p12) (0,zA 32)
noncomputable def Zcv (a0 : (List Int)) (y2 : ((List Int))) : (Int×(Arr 8))→Option ((Int×(Arr 8)) ⊕ ((Arr 32)))
 | (p11,p12)=>(if IntKind.i64.wrap (p11 + 64)≤(a0.length + y2.length : Int) then (chk (0≤p11∧p11≤((a0++y2).length : Int))).bind fun _=>(X1 p12 ((zA 64).over ((a0++y2).drop (p11).toNat))).bind fun y39=>some (.inl (IntKind.i64.wrap (p11 + 64),y39)) else (ZdE p12).map Sum.inr)
noncomputable def Zal (a0 : (List Int)) : Option ((Arr 32)) :=
 (chk (a0.length≤140737488355328)).bind fun _=>(Zc9 (IntKind.u64.wrap ((a0.length : Int)))).bind fun y2=>(chk (a0.length + y2.length≤140737488355328)).bind fun _=>(Lref03_Initial).bind fun y4=>Zg (Zcv a0 y2) (0,y4)
noncomputable def Zap (a0 : (List Int)) : Option ((Arr 32)) :=
 (Zal a0).bind fun y1=>(Zal y1.l).bind fun y2=>some (y2)
end Go.Lc
end
