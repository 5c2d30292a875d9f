import Derived.Test.YtbjhgolpnjokbaaGreatAvP3
import Derived.WalkSpells
import Derived.MapKept
import Derived.Laws.StructEq
import Derived.Lib.BitFns
section
namespace Go.Av
open Go.RowKit
set_option linter.unusedVariables false
section
variable {tt : TT} {T : Tab} {G : Glob} {kp : Keep} {st st0 st1 : ASt} {a b c d : Code} {Q Q' : AE→ASt→Prop}
def YF (tt : TT) (T : Tab) (G : Glob) (kp : Keep) (c : Code) (st : ASt) (Q : AE→ASt→Prop) : Prop:=∃ n0 e s,(∀ n,n0≤n→YA tt T G kp n c st = some (e,s))∧Q e s
theorem ZfI (h : YF tt T G kp a st (Zfy (fun s=>YF tt T G kp b s Q) Q)) : YF tt T G kp (.seq a b) st Q:=by
 obtain ⟨n0,e,s,h1,h2⟩:=h;cases e with
 | normal =>
  obtain ⟨n1,e',s',h3,h4⟩:=h2;exact ⟨max n0 n1,e',s',fun n hn=>by simp [YA,h1 n (by omega),h3 n (by omega)],h4⟩
 | exit id=>exact ⟨n0,_,_,fun n hn=>by simp [YA,h1 n hn],h2⟩
 | ret=>exact ⟨n0,_,_,fun n hn=>by simp [YA,h1 n hn],h2⟩
theorem ZA {id : Nat} {ops : Array Oper} (hc : c = .region id ops false) (h : Zg0 tt T G ops.toList ops.toList st = some st1) (hq : Q .normal st1) (hj : (kp (id + 1000000)).ks.isEmpty = true:=by rfl) : YF tt T G kp c st Q:=⟨0,_,_,fun n _=>by subst hc; simp [YA,XA,hj,h],hq⟩
theorem Zbk {id : Nat} {ops : Array Oper} {fs : List Foot} (hc : c = .region id ops true) (h : Zg1 tt T G ops.toList ops.toList st = some (st1,fs)) (hd : ZeJ ops.toList fs = true) (hq : Q .normal st1) (hj : (kp (id + 1000000)).ks.isEmpty = true:=by rfl) : YF tt T G kp c st Q:=⟨0,_,_,fun n _=>by subst hc; simp [YA,XA,hj,h,hd],hq⟩
theorem Za {id : Nat} {ops : Array Oper} (hc : c = .region id ops false) (h : Zg0 tt T G ops.toList ops.toList st = some st1) (hq : YF tt T G kp b st1 Q) (hj : (kp (id + 1000000)).ks.isEmpty = true:=by rfl) : YF tt T G kp (.seq c b) st Q:=ZfI (ZA hc h hq hj)
theorem ZC {id : Nat} {ops : Array Oper} {fs : List Foot} (hc : c = .region id ops true) (h : Zg1 tt T G ops.toList ops.toList st = some (st1,fs)) (hd : ZeJ ops.toList fs = true) (hq : YF tt T G kp b st1 Q) (hj : (kp (id + 1000000)).ks.isEmpty = true:=by rfl) : YF tt T G kp (.seq c b) st Q:=ZfI (Zbk hc h hd hq hj)
theorem ZV (h : Q .normal st) : YF tt T G kp .skip st Q:=⟨0,_,_,fun _ _=>rfl,h⟩
theorem Zi (h : Q .ret st) : YF tt T G kp .ret st Q:=⟨0,_,_,fun _ _=>rfl,h⟩
theorem Zry {id : Nat} (h : Q (.exit id) st) : YF tt T G kp (.exit id) st Q:=⟨0,_,_,fun _ _=>rfl,h⟩
theorem Zh (h : YF tt T G kp b st Q) : YF tt T G kp (.seq .skip b) st Q:=ZfI (ZV h)
theorem Zn (h : Q .ret st) : YF tt T G kp (.seq .ret b) st Q:=ZfI (Zi h)
theorem Zr {id : Nat} (h : Q (.exit id) st) : YF tt T G kp (.seq (.exit id) b) st Q:=ZfI (Zry h)
theorem Zb (h : YF tt T G kp (.seq a (.seq b d)) st Q) : YF tt T G kp (.seq (.seq a b) d) st Q:=by
 obtain ⟨n0,e,s,h1,h2⟩:=h;refine ⟨n0,e,s,fun n hn=>?_,h2⟩;rw [← h1 n hn];simp only [YA];cases YA tt T G kp n a st with
 | none=>rfl
 | some x=>obtain ⟨e,s⟩:=x; cases e <;> rfl
theorem Zp {x : Operand} (h : rd G st.get x = some (bV true)) (h1 : YF tt T G kp a st Q) : YF tt T G kp (.cond x a b) st Q:=by
 unfold bV at h;obtain ⟨n0,e,s,h3,h4⟩:=h1; exact ⟨n0,e,s,fun n hn=>by simp only [YA,h,h3 n hn,if_true],h4⟩
theorem Zy {x : Operand} (h : rd G st.get x = some (bV false)) (h1 : YF tt T G kp b st Q) : YF tt T G kp (.cond x a b) st Q:=by
 unfold bV at h;obtain ⟨n0,e,s,h3,h4⟩:=h1; exact ⟨n0,e,s,fun n hn=>by simp only [YA,h,h3 n hn,Bool.false_eq_true,if_false],h4⟩
theorem Zd {x : Operand} (h : rd G st.get x = some (bV true)) (h1 : YF tt T G kp (.seq a d) st Q) : YF tt T G kp (.seq (.cond x a b) d) st Q:=by
 unfold bV at h;obtain ⟨n0,e,s,h3,h4⟩:=h1; exact ⟨n0,e,s,fun n hn=>by rw [← h3 n hn]; simp only [YA,h,if_true],h4⟩
theorem Ze {x : Operand} (h : rd G st.get x = some (bV false)) (h1 : YF tt T G kp (.seq b d) st Q) : YF tt T G kp (.seq (.cond x a b) d) st Q:=by
 unfold bV at h;obtain ⟨n0,e,s,h3,h4⟩:=h1; exact ⟨n0,e,s,fun n hn=>by rw [← h3 n hn]; simp only [YA,h,Bool.false_eq_true,if_false],h4⟩
theorem ZaW {id : Nat} (h : YF tt T G kp c st (ZhQ id Q)) : YF tt T G kp (.block id c) st Q:=by
 obtain ⟨n0,e,s,h1,h2⟩:=h;cases e with
 | normal=>exact ⟨n0,.normal,s,fun n hn=>by simp [YA,h1 n hn],h2⟩
 | ret=>exact ⟨n0,.ret,s,fun n hn=>by simp [YA,h1 n hn],h2⟩
 | exit id' =>
  simp only [ZhQ] at h2;split at h2
  ·rename_i hid; exact ⟨n0,.normal,s,fun n hn=>by simp [YA,h1 n hn,hid],h2⟩
  ·rename_i hid; exact ⟨n0,.exit id',s,fun n hn=>by simp [YA,h1 n hn,hid],h2⟩
theorem Zg {id : Nat} (h : YF tt T G kp c st (ZhQ id (Zfy (fun s=>YF tt T G kp d s Q) Q))) : YF tt T G kp (.seq (.block id c) d) st Q:=ZfI (ZaW h)
theorem Zrz {n : Nat} {st st' : ASt} : ∀ {c : Code} {key : Nat},firstJ c = some key→(kp key).ks.isEmpty = false→Zci (kp key) st = Zci (kp key) st'→YA tt T G kp n c st = YA tt T G kp n c st' := by
 intro c;induction c with
 | region id ops dr =>
  intro key hc ha hf;simp only [firstJ,Option.some.injEq] at hc;subst hc;simp only [YA,XA,ha,Bool.false_eq_true,if_false,hf]
 | seq a b iha ihb =>
  intro key hc ha hf;simp only [firstJ] at hc;simp only [YA,iha hc ha hf]
 | block id c ih =>
  intro key hc ha hf;simp only [firstJ] at hc;simp only [YA,ih hc ha hf]
 | loop c ih =>
  intro key hc ha hf;simp only [firstJ,Option.some.injEq] at hc;subst hc;cases n with
  | zero=>rfl
  | succ n=>simp only [YA,Zg2,hf]
 | _=>intro key hc; simp [firstJ] at hc
theorem YR {key : Nat} {kq : Kp} {H : ASt} (hc : firstJ c = some key) (hk : kp key = kq) (ha : kq.ks.isEmpty = false) (hf : Zci kq st = Zci kq H) (h : YF tt T G kp c H Q) : YF tt T G kp c st Q:=by
 subst hk;obtain ⟨n0,e,s,h1,h2⟩:=h;exact ⟨n0,e,s,fun n hn=>by rw [Zrz hc ha hf]; exact h1 n hn,h2⟩
theorem Zj8 {σ ρ : Type} {l rhs : Option ρ} (_ : l = rhs) (H : σ→ASt) (f : σ→Option ρ) (hJ : ∀ s,f s = rhs→YF tt T G kp b (H s) Q) (hm : (∀ s,f s = rhs→YF tt T G kp b (H s) Q)→YF tt T G kp (.seq a b) st Q) : YF tt T G kp (.seq a b) st Q:=hm hJ
theorem Zk5 {σ ρ : Type} {l rhs : Option ρ} (_ : l = rhs) (X : AE) (H : σ→ASt) (f : σ→Option ρ) (hJ : ∀ s,f s = rhs→Q X (H s)) (hm : (∀ s,f s = rhs→Q X (H s))→YF tt T G kp c st Q) : YF tt T G kp c st Q:=hm hJ
theorem Zk6 {id : Nat} {ops : Array Oper} {kq : Kp} (hc : c = .region id ops false) (hk : kp (id + 1000000) = kq) (hf : XA kq st = st0) (h : Zg0 tt T G ops.toList ops.toList st0 = some st1) (hq : Q .normal st1) : YF tt T G kp c st Q:=⟨0,_,_,fun n _=>by subst hc; simp [YA,hk,hf,h],hq⟩
theorem Zqy {id : Nat} {ops : Array Oper} {kq : Kp} {fs : List Foot} (hc : c = .region id ops true) (hk : kp (id + 1000000) = kq) (hf : XA kq st = st0) (h : Zg1 tt T G ops.toList ops.toList st0 = some (st1,fs)) (hd : ZeJ ops.toList fs = true) (hq : Q .normal st1) : YF tt T G kp c st Q:=⟨0,_,_,fun n _=>by subst hc; simp [YA,hk,hf,h,hd],hq⟩
theorem Zc0 {id : Nat} {ops : Array Oper} {kq : Kp} (hc : c = .region id ops false) (hk : kp (id + 1000000) = kq) (hf : XA kq st = st0) (h : Zg0 tt T G ops.toList ops.toList st0 = some st1) (hq : YF tt T G kp b st1 Q) : YF tt T G kp (.seq c b) st Q:=ZfI (Zk6 hc hk hf h hq)
theorem ZmL {id : Nat} {ops : Array Oper} {kq : Kp} {fs : List Foot} (hc : c = .region id ops true) (hk : kp (id + 1000000) = kq) (hf : XA kq st = st0) (h : Zg1 tt T G ops.toList ops.toList st0 = some (st1,fs)) (hd : ZeJ ops.toList fs = true) (hq : YF tt T G kp b st1 Q) : YF tt T G kp (.seq c b) st Q:=ZfI (Zqy hc hk hf h hd hq)
def Zcz {σ ρ : Type} (step : σ→Option (σ ⊕ ρ)) : Nat→σ→Option ρ
 | 0,_=>none
 | m + 1,s=>match step s with | some (.inl s')=>Zcz step m s' | some (.inr r)=>some r | none=>none
theorem ZhV {σ ρ : Type} {step : σ→Option (σ ⊕ ρ)} : ∀ {m : Nat} {s : σ} {r : ρ},Zcz step m s = some r→∀ k,Zcz step (m + k) s = some r
 | 0,_,_,h=>by simp [Zcz] at h
 | m + 1,s,r,h=>by
  intro k;rw [show m + 1 + k = (m + k) + 1 by omega];simp only [Zcz] at h ⊢;split at h
  ·rename_i s' hs
   exact ZhV h k
  ·exact h
  ·simp at h
noncomputable def Zu {σ ρ : Type} (step : σ→Option (σ ⊕ ρ)) (s : σ) : Option ρ:=by
 classical
 exact if h : ∃ m r,Zcz step m s = some r then some (Classical.choose (Classical.choose_spec h)) else none
theorem ZeO {σ ρ : Type} {step : σ→Option (σ ⊕ ρ)} {s : σ} {r : ρ} : Zu step s = some r↔∃ m,Zcz step m s = some r:=by
 unfold Zu;constructor
 ·intro h
  split at h
  ·rename_i hx
   have:=Classical.choose_spec (Classical.choose_spec hx);injection h with h;rw [h] at this;exact ⟨_,this⟩
  ·simp at h
 ·rintro ⟨m,h⟩
  have hx : ∃ m r,Zcz step m s = some r:=⟨m,r,h⟩
  rw [dif_pos hx];have h2:=Classical.choose_spec (Classical.choose_spec hx);have h3:=ZhV h (Classical.choose hx);have h4:=ZhV h2 m;rw [Nat.add_comm,h3] at h4;exact h4.symm
theorem Zge {σ ρ : Type} (step : σ→Option (σ ⊕ ρ)) (s : σ) : Zu step s = (match step s with | some (.inl s')=>Zu step s' | some (.inr r)=>some r | none=>none):=by
 apply Option.ext
 intro r;rw [ZeO];constructor
 ·rintro ⟨m,h⟩
  cases m with
  | zero=>simp [Zcz] at h
  | succ m =>
   simp only [Zcz] at h;split at h
   ·exact ZeO.2 ⟨m,h⟩
   ·exact h
   ·simp at h
 ·intro h
  split at h
  ·rename_i s' hs
   obtain ⟨m,hm⟩:=ZeO.1 h;exact ⟨m + 1,by simp [Zcz,hs,hm]⟩
  ·rename_i r' hs
   exact ⟨1,by simpa [Zcz,hs] using h⟩
  ·simp at h
def QL {σ ρ : Type} (kq : Kp) (H : σ→ASt) (Q : AE→ASt→Prop) (r : ρ) : σ ⊕ ρ→AE→ASt→Prop
 | .inl s'=>Zfy (fun st=>Zci kq st = H s') fun _ _=>False
 | .inr r'=>Zfy (fun _=>False) fun e st=>r' = r→Q e st
theorem Zsw {σ ρ : Type} {kq : Kp} {step : σ→Option (σ ⊕ ρ)} {H : σ→ASt} {r : ρ}
  (hb : ∀ s x,step s = some x→YF tt T G kp c (H s) (QL kq H Q r x)) :
  ∀ (m : Nat) (s : σ) (st : ASt),Zcz step m s = some r→Zci kq st = H s→∃ n0 e s',(∀ M,n0≤M→∀ n,n0≤n→Zg2 kq (YA tt T G kp n c) M st = some (e,s'))∧Q e s' := by
 intro m;induction m with
 | zero=>intro s st h; simp [Zcz] at h
 | succ m ih =>
  intro s st h hf;simp only [Zcz] at h;split at h
  ·rename_i s' hs
   obtain ⟨n1,e,st',h1,h2⟩:=hb s _ hs;cases e with
   | normal =>
    obtain ⟨n2,e2,st2,h3,h4⟩:=ih s' st' h h2;refine ⟨max n1 n2 + 1,e2,st2,fun M hM n hn=>?_,h4⟩;obtain ⟨M,rfl⟩ : ∃ M',M = M' + 1:=⟨M - 1,by omega⟩
    simp only [Zg2,hf,h1 n (by omega)];exact h3 M (by omega) n (by omega)
   | exit id=>exact h2.elim
   | ret=>exact h2.elim
  ·rename_i r' hs
   injection h with h;subst h;obtain ⟨n1,e,st',h1,h2⟩:=hb s _ hs;cases e with
   | normal=>exact h2.elim
   | exit id =>
    refine ⟨n1 + 1,_,_,fun M hM n hn=>?_,h2 rfl⟩;obtain ⟨M,rfl⟩ : ∃ M',M = M' + 1:=⟨M - 1,by omega⟩
    simp only [Zg2,hf,h1 n (by omega)]
   | ret =>
    refine ⟨n1 + 1,_,_,fun M hM n hn=>?_,h2 rfl⟩;obtain ⟨M,rfl⟩ : ∃ M',M = M' + 1:=⟨M - 1,by omega⟩
    simp only [Zg2,hf,h1 n (by omega)]
  ·simp at h
theorem ZJ {σ ρ : Type} {kq : Kp} {step : σ→Option (σ ⊕ ρ)} {H : σ→ASt} (hk : kp (firstId c) = kq) {s : σ} {r : ρ}
  (hr : Zu step s = some r) (hf : Zci kq st = H s)
  (hb : ∀ s x,step s = some x→YF tt T G kp c (H s) (QL kq H Q r x)) : YF tt T G kp (.loop c) st Q:=by
 obtain ⟨m,hm⟩:=ZeO.1 hr;obtain ⟨n0,e,s',h1,h2⟩:=Zsw hb m s st hm hf;refine ⟨n0,e,s',fun n hn=>?_,h2⟩;simp only [YA];rw [hk];exact h1 n hn n hn
theorem fnE {fn : Func} {args : List PV} {w : Bool} {r : PV×List (List Cell)} (hb : fn.body = some c) (hc : Zku args = true) (h : YF tt T G kp c ⟨(ioIn 0 0 args).1++List.replicate (fn.ntmps - args.length) .skip,ZiE args⟩ (Zj tt w fn args r)) : ∃ kp fl n,Zt tt T G kp fl n fn args = some r:=by
 obtain ⟨n0,e,s,h1,h2⟩:=h;exact ⟨kp,w,n0,Zrt hb hc ⟨e,s,h1 n0 (Nat.le_refl _),h2⟩⟩
end
end Go.Av
end
section
namespace Go.Av
open Go.RowKit
set_option linter.unusedVariables false
def idx {α : Type} (l : List α) (i : Int) : Option α:=if 0≤i then l[i.toNat]? else none
theorem Zz {α : Type} {l : List α} {i : Int} {x : α} (h : idx l i = some x) : 0≤i∧l[i.toNat]? = some x:=by
 unfold idx at h;split at h
 ·exact ⟨by assumption,h⟩
 ·simp at h
def inA (n : Nat) (i : Int) : Option Nat:=if 0≤i∧i < n then some i.toNat else none
theorem Yc {n : Nat} {i : Int} {j : Nat} (h : inA n i = some j) : 0≤i∧i.toNat = j∧j < n:=by
 unfold inA at h;split at h
 ·simp at h
  omega
 ·simp at h
def chk (p : Prop) [Decidable p] : Option Unit:=if p then some () else none
theorem ZD {p : Prop} [Decidable p] {u : Unit} (h : chk p = some u) : p:=by
 unfold chk at h;split at h
 ·assumption
 ·simp at h
theorem ZrA {p : Prop} [Decidable p] (h : p) : chk p = some ():=by simp [chk,h]
@[simp] theorem Zuk {k : IntKind} {l m : List Int} : Zl k l = Zl k m↔l = m:=⟨Zo8,fun h=>by rw [h]⟩
@[simp] theorem Zvf {n : Nat} {k : IntKind} {a b : Arr n} : arC k a = arC k b↔a = b:=⟨Zk4,fun h=>by rw [h]⟩
@[simp] theorem Zvg {n : Nat} {k : IntKind} {a b : Arr n} {s t : List Cell} : arC k a++s = arC k b++t↔a = b∧s = t:=by
 constructor
 ·intro h
  obtain ⟨h1,h2⟩:=List.append_inj h (by simp);exact ⟨Zk4 h1,h2⟩
 ·rintro ⟨rfl,rfl⟩; rfl
theorem ZeC {α : Type} {f : α→List Cell} (hf : ∀ a b,f a = f b→a = b) {l m : List α} : l.map f = m.map f↔l = m:=List.map_inj_right hf
@[simp] theorem ZuD {n : Nat} {k : IntKind} {l m : List (Arr n)} : List.map (arC k) l = List.map (arC k) m↔l = m:=ZeC fun _ _ h=>Zk4 h
@[simp] theorem ZtA {n : Nat} {k : IntKind} {l : List (Arr n)} : ∀ x∈List.map (arC k) l,x.length = n:=by simp
@[simp] theorem ZlI {k : IntKind} : Zl k [] = []:=rfl
@[simp] theorem ZkI {k : IntKind} {x : Int} {l : List Int} : Zl k (x :: l) = [.v (.int k x)] :: Zl k l:=rfl
@[simp] theorem Zpe {k : IntKind} {l m : List Int} : Zl k (l++m) = Zl k l++Zl k m:=intsR_append.symm
@[simp] theorem ZcA {k : IntKind} {l : List Int} {n : Nat} : Zl k (l.take n) = (Zl k l).take n:=(ZhS n).symm
@[simp] theorem Zeo {k : IntKind} {l : List Int} {n : Nat} : Zl k (l.drop n) = (Zl k l).drop n:=(ZkG n).symm
@[simp] theorem Zqz {k : IntKind} {l : List Int} {n : Nat} {x : Int} : Zl k (l.set n x) = (Zl k l).set n [.v (.int k x)]:=(Zo9 n x).symm
@[simp] theorem Zpf {k : IntKind} {n : Nat} {x : Int} : Zl k (List.replicate n x) = List.replicate n [.v (.int k x)]:=by simp [Zl]
@[simp] theorem ZtT {k : IntKind} {m : List Int} : (∀ l,l∈Zl k m→l.length = 1) = True:=eq_true fun l h=>intsR_all l h
@[simp] theorem isSl_v (x : Value) : Cell.isSl (.v x) = false:=rfl
@[simp] theorem Zvh (els : List (List Cell)) : Cell.isSl (.slice .no els) = true:=rfl
@[simp] theorem ZuE (els : List (List Cell)) : Cell.isSl (.slice .nil els) = false:=rfl
@[simp] theorem Zvi (a b c d e : Nat) : Cell.isSl (.ms a b c d e) = false:=rfl
@[simp] theorem Zvj (a b c d e : Nat) : Cell.isSl (.fv a b c d e) = false:=rfl
@[simp] theorem ZuF (e : Nat) (els : List (List Cell)) : Cell.isSl (.own e els) = false:=rfl
@[simp] theorem Zul {k : IntKind} {l : List Int} : (Zl k l).any (fun l=>l.any Cell.isSl) = false:=by simp [Zl,List.any_map]
@[simp] theorem Zvk {n : Nat} {k : IntKind} {a : Arr n} : (arC k a).any Cell.isSl = false:=by simp [arC,ints]
@[simp] theorem ZuG {n : Nat} {k : IntKind} {l : List (Arr n)} : (List.map (arC k) l).any (fun l=>l.any Cell.isSl) = false:=by simp [List.any_map]
@[simp] theorem Zum {bx : Boxes} {ns : List Nat} {n : Nat} {l : List Cell} : YL bx ns (List.replicate n l) = List.replicate n (Zc4 bx ns l):=by simp [YL]
@[simp] theorem Zun {bx : Boxes} {ns : List Nat} {els : List (List Cell)} {n : Nat} {l : List Cell} : YL bx ns (els.set n l) = (YL bx ns els).set n (Zc4 bx ns l):=by simp [YL,List.map_set]
@[simp] theorem ZtU {bx : Boxes} {ns : List Nat} {els : List (List Cell)} {n : Nat} : YL bx ns (els.take n) = (YL bx ns els).take n:=by simp [YL]
@[simp] theorem ZtV {bx : Boxes} {ns : List Nat} {els : List (List Cell)} {n : Nat} : YL bx ns (els.drop n) = (YL bx ns els).drop n:=by simp [YL]
@[simp] theorem ZtW {n : Nat} {l : List Cell} (h : Ym l = true) : Z0 (List.replicate n l) = true:=by
 simp only [Z0,List.all_eq_true,List.mem_replicate];rintro x ⟨_,rfl⟩
 exact h
theorem ZkJ {a b : List (List Cell)} (h : ∀ x∈a,x∈b) (hb : Z0 b = true) : Z0 a = true:=by
 simp only [Z0,List.all_eq_true] at *;exact fun x hx=>hb x (h x hx)
@[simp] theorem ZtB {n : Nat} {els : List (List Cell)} (h : Z0 els = true) : Z0 (els.take n) = true:=ZkJ (fun _=>List.mem_of_mem_take) h
@[simp] theorem ZtC {n : Nat} {els : List (List Cell)} (h : Z0 els = true) : Z0 (els.drop n) = true:=ZkJ (fun _=>List.mem_of_mem_drop) h
@[simp] theorem ZtX {n : Nat} {els : List (List Cell)} {l : List Cell} (h : Z0 els = true) (hl : Ym l = true) : Z0 (els.set n l) = true:=by
 simp only [Z0,List.all_eq_true] at *;intro x hx;rcases List.mem_or_eq_of_mem_set hx with h1 | rfl
 ·exact h x h1
 ·exact hl
@[simp] theorem ZtY {k : IntKind} {l : List Int} {i : Nat} (h : i < (Zl k l).length) : (Zl k l)[i] = [.v (.int k (l[i]'(by simpa using h)))]:=by simp [Zl]
theorem Zq {α : Type} {l : List α} {i : Nat} {x : α} (h : l[i]? = some x) : ∀ h' : i < l.length,l[i] = x:=fun h'=>by
 rw [List.getElem?_eq_getElem h'] at h;injection h
@[simp] theorem bits_u64 : IntKind.u64.bits = 64:=rfl
@[simp] theorem bits_u32 : IntKind.u32.bits = 32:=rfl
@[simp] theorem bits_u16 : IntKind.u16.bits = 16:=rfl
@[simp] theorem bits_u8 : IntKind.u8.bits = 8:=rfl
@[simp] theorem bits_i64 : IntKind.i64.bits = 64:=rfl
@[simp] theorem bits_i32 : IntKind.i32.bits = 32:=rfl
@[simp] theorem maxLen_eq : maxLen = 9223372036854775807:=rfl
@[simp] theorem Zuo {n m : Nat} {k : IntKind} {a : Arr n} (h : m≤n) : XT 1 m (arC k a) = (Zl k a.l).take m:=by
 unfold arC;rw [chunk_ints (by rw [a.hl]; exact h),ZhS]
@[simp] theorem ZrB {n m o : Nat} {k : IntKind} {a : Arr n} (h : o + m≤n) : XT 1 m ((arC k a).drop o) = ((Zl k a.l).drop o).take m:=by
 unfold arC;rw [Zo6,chunk_ints (by have:=a.hl; simp; omega),ZkG,ZhS]
@[simp] theorem Zvl {n : Nat} {a : Arr n} : a.l.length = n:=a.hl
@[simp] theorem ZtD {n : Nat} {k : IntKind} {a b : Arr n} {s t : List Cell} : cellsEq (arC k a++s) (arC k b++t) = (match cellsEq s t with | some c=>some (decide (a = b) && c) | none=>none):=by
 have h : ∀ {l m : List Int},l.length = m.length→cellsEq (ints k l++s) (ints k m++t) = (match cellsEq s t with | some c=>some ((l == m) && c) | none=>none):=by
  intro l;induction l with
  | nil=>intro m h; cases m with
   | nil=>simp [ints]; cases cellsEq s t <;> rfl
   | cons y m=>simp at h
  | cons x l ih=>intro m h; cases m with
   | nil=>simp at h
   | cons y m =>
    have:=ih (m:=m) (by simpa using h);simp only [ints] at this;simp only [ints,List.map_cons,List.cons_append,cellsEq,cellEq,if_true,this];cases cellsEq s t with
    | none=>rfl
    | some c=>simp [List.cons_beq_cons,Bool.and_assoc]
 unfold arC;rw [h (by rw [a.hl,b.hl])]
 have e : (a.l == b.l) = decide (a = b):=by
  cases a; cases b
  rw [Bool.eq_iff_iff];simp
 rw [e]
@[simp] theorem ZtE {n : Nat} {k k' : IntKind} (a b : Arr n) (cs ds : List Cell) : Z2 (arC k a++cs) 0 (arC k' b++ds) = arC k' b++Z2 cs 0 ds:=by
 unfold Z2;simp only [List.take_zero,List.nil_append,Nat.zero_add,List.length_append,Zrx,List.drop_append,List.append_assoc];rw [List.drop_of_length_le (by simp)];simp
theorem Zbc {α : Type} {f : α→List Cell} {s : Nat} (h : ∀ a,(f a).length = s) (m : List α) : (∀ l,l∈List.map f m→l.length = s) = True:=eq_true fun l hl=>by
 obtain ⟨a,_,rfl⟩:=List.mem_map.1 hl;exact h a
@[simp↓] theorem Zvm {n : Nat} {k : IntKind} (m : List (Arr n)) : (∀ l,l∈List.map (arC k) m→l.length = n) = True:=Zbc (by simp) m
def frS (b : Bool) (bx : Boxes) : List Nat→List (Nat×Box)
 | []=>[]
 | x :: l=>if b then Xg bx (x :: l) else []
@[simp] theorem Zvn (b : Bool) (bx : Boxes) : frS b bx [] = []:=rfl
@[simp] theorem Zup (bx : Boxes) (l : List Nat) : frS false bx l = []:=by cases l <;> rfl
@[simp] theorem ZuH (bx : Boxes) (l : List Nat) : frS true bx l = Xg bx l:=by cases l <;> rfl
theorem Zpg (T : Tab) (d : Option Nat) (f : FuncId) (ps : List PV) (bx : Boxes) : ZfD T d f ps bx = (match Zmg T f,Zfs bx (T.own (d.getD 90000)) ps with
 | some F,some qs =>
  match F qs with
  | some (r,outs) =>
   match Zcw bx (ioPs (T.own (d.getD 90000)) ps) outs,Zf8 bx (d.getD 90000) r with
   | some (bo,br),some (p,bn) =>
    if nodupB (ioPs (T.own (d.getD 90000)) ps++(br++bn).map (·.1)) && (Xh bx (T.own (d.getD 90000)) ps).all (fun x=>!(ioPs (T.own (d.getD 90000)) ps++Za7 bx (T.own (d.getD 90000)) ps++(br++bn).map (·.1)).contains x) && (bn.isEmpty || d.isSome) && Za6 ((br++bn).map (·.1)) && nodupB (ioPs (T.own (d.getD 90000)) ps++Za7 bx (T.own (d.getD 90000)) ps) && (!(hasSlR r || outs.any hasSlL) || Za6 (Xh bx (T.own (d.getD 90000)) ps)) then
     some ⟨Za5 d p,frS (hasSlR r || outs.any hasSlL) bx (Xh bx (T.own (d.getD 90000)) ps)++bo++(br++bn++Zft bx ((Za7 bx (T.own (d.getD 90000)) ps).filter fun x=>!((br++bn).map (·.1)).contains x)),Xh bx (T.own (d.getD 90000)) ps++ioPs (T.own (d.getD 90000)) ps++Za7 bx (T.own (d.getD 90000)) ps++(br++bn).map (·.1)⟩
    else none
   | _,_=>none
  | none=>none
 | _,_=>none):=by
 have h : ∀ (b : Bool) l,(if b then Xg bx l else []) = frS b bx l:=by
  intro b l;cases b <;> simp [-Xg]
 unfold ZfD;simp only [h];rfl
attribute [simp] Zpg
end Go.Av
end
section
namespace Go.Av
open Go.RowKit
set_option linter.unusedVariables false
theorem ZbN {P : Program} (w : World) (t ty e : TypeId) (i : TypeInfo) (ht : P.underlying t = some (.slice e)) (hi : P.info? e = some i) (b x : Option Addr) (n c c' : Nat) (hc : n≤c) :
  (Builtin.append_ #[t,t] ty #[.slice b n c,.slice x 0 c']).run P w = .ok (.slice b n c) w:=by
 have hf : ∀ y : Option Addr,(Builtin.firstCells i.size 0 (.slice y 0 c')).run P w = .ok #[] w:=by
  intro y;cases y with
  | none=>simp [Builtin.firstCells]
  | some y=>simp [Builtin.firstCells,loadCells,loadCellsFrom]
 cases b <;> simp [Builtin.append_,run_underlying ht,sizeOf,typeInfo,hi,Builtin.lenOf,hc,hf,storeCells]
theorem ZeP {P : Program} {G : Glob} {f : FuncId} {fn : Func} {α : Type} {e t N : Nat} {rows : List α→List (List Cell)} (hfn : P.funcs[f]? = some fn) (hb : fn.body.isNone = false) (hnm : (fn.name == "runtime.NumGoroutine") = false)
  (F : List PV→Option (PV×List (List Cell))) (hF : ∀ ps r,F ps = some r→∃ l : List α,ps = [.one (.slice .no (rows l))]∧r = (.one (.own e (rows l)),[]))
  (hnil : rows [] = [])
  (h1 : ∀ l,l≠[]→∀ r,F [.one (.slice .no (rows l))] = some r→ZK P G f fun ps=>by classical exact if ps = [.one (.slice .no (rows l))] then some r else none)
  (h2 : ∀ (x : Option Addr) (c : Nat) (w : World),Calls P f #[.slice x 0 c] w fun ee w'=>∃ y,ee = .returned (.slice y 0 0)∧(w' = w∨w' = w.alloc (.cells #[] t))) : ZK P G f F:=by
 refine ⟨⟨fn,hfn,hb,hnm⟩,?_⟩;intro S w ks hh ps vs r outs hg hs ha hk hFr;obtain ⟨l,rfl,hr⟩:=hF ps _ hFr;by_cases hl : l = []
 ·subst hl
  rw [hnil] at ha hr;injection hr with hr1 hr2;subst hr1 hr2;cases ha with
  | one ha1 ha =>
   cases ha
   cases ha1 with
   | pure ha1 =>
   obtain ⟨x,c,hv,_⟩:=ha1.len;simp at hv
   subst hv;refine (h2 x c w).mono ?_;rintro ee w' ⟨y,rfl,rfl | rfl⟩
   ·exact ⟨_,S,_,_,rfl,.base (.one (.none e y)),.skip (by simp) (by simp) .nil,by simp [ZO],Xq.refl _ _ _,fun _ _ h=>h,fun _ _ h=>.inl h,hs⟩
   ·have hh : (w.alloc (.cells #[] t)).heap = w.heap.push (.cells #[] t):=rfl
    refine ⟨_,S,_,_,rfl,.base (.one (.none e y)),.skip (by simp) (by simp) .nil,by simp [ZO],⟨rfl,rfl,rfl,by rw [hh]; simp,fun b hb _=>(by rw [hh]; simp [Array.getElem?_push,Nat.ne_of_lt hb]),fun b arr T _ ha=>⟨arr,T,(by rw [hh,Array.getElem?_push]; have hb:=Xr ha; simp [Nat.ne_of_lt hb,ha]),Nat.le_refl _⟩⟩,fun _ _ h=>h,fun _ _ h=>.inl h,fun b o h=>by have:=hs b o h; rw [hh]; simp; omega⟩
 ·exact (h1 l hl _ hFr).2 S w ks hh _ vs r outs hg hs ha hk (by simp)
@[simp] theorem ZrC {n : Nat} {k : IntKind} {l : List Int} (h : l.length = n) : arC k (⟨l,h⟩ : Arr n) = ints k l:=rfl
@[simp] theorem ZqA {k : IntKind} : ints k [] = []:=rfl
@[simp] theorem Zph {k : IntKind} {x : Int} {l : List Int} : ints k (x :: l) = .v (.int k x) :: ints k l:=rfl
end Go.Av
end
section
namespace Go.Av
open Go.RowKit
set_option linter.unusedVariables false
def Zc5 {K V : Type} [DecidableEq K] (k : K) : List (K×V)→Option V
 | []=>none
 | (a,v) :: l=>if k = a then some v else Zc5 k l
def ZfO {K V : Type} [DecidableEq K] (k : K) (v : V) : List (K×V)→List (K×V)
 | []=>[(k,v)]
 | (a,w) :: l=>if k = a then (k,v) :: l else (a,w) :: ZfO k v l
section
variable {K V : Type} [DecidableEq K] {n : Nat} {eK : K→List Cell} {eV : V→List Cell}
theorem ZmM (hn : ∀ k,(eK k).length = n) (he : ∀ a b,kEq (eK a) (eK b) = decide (a = b)) (k : K) : ∀ l : List (K×V),Zem n (eK k) (l.map fun x=>eK x.1++eV x.2) = (Zc5 k l).map eV
 | []=>rfl
 | (a,v) :: l=>by
  simp only [List.map_cons,Zem,Zc5,List.take_left' (hn a),List.drop_left' (hn a),he];by_cases h : k = a
  ·simp [h]
  ·simp [h,ZmM hn he k l]
theorem ZmN (hn : ∀ k,(eK k).length = n) (he : ∀ a b,kEq (eK a) (eK b) = decide (a = b)) (k : K) (v : V) : ∀ l : List (K×V),Ze8 n (eK k) (eV v) (l.map fun x=>eK x.1++eV x.2) = (ZfO k v l).map fun x=>eK x.1++eV x.2
 | []=>rfl
 | (a,w) :: l=>by
  simp only [List.map_cons,Ze8,ZfO,List.take_left' (hn a),he];by_cases h : k = a
  ·simp [h]
  ·simp [h,ZmN hn he k v l]
end
@[simp] theorem Znq {n : Nat} {k k' : IntKind} {a b : Arr n} {s t : List Cell} : kEq (arC k a++s) (arC k' b++t) = (decide (a = b) && kEq s t):=by
 have h : ∀ {l m : List Int},l.length = m.length→kEq (ints k l++s) (ints k' m++t) = ((l == m) && kEq s t):=by
  intro l;induction l with
  | nil=>intro m h; cases m with
   | nil=>simp [ints]
   | cons y m=>simp at h
  | cons x l ih=>intro m h; cases m with
   | nil=>simp at h
   | cons y m =>
    have:=ih (m:=m) (by simpa using h);simp only [ints] at this;simp only [ints,List.map_cons,List.cons_append,kEq,kEq1,this,List.cons_beq_cons,Bool.and_assoc]
 unfold arC;rw [h (by rw [a.hl,b.hl])]
 have e : (a.l == b.l) = decide (a = b):=by
  cases a; cases b
  rw [Bool.eq_iff_iff];simp
 rw [e]
@[simp] theorem Zvo {n : Nat} {k k' : IntKind} {a b : Arr n} : kEq (arC k a) (arC k' b) = decide (a = b):=by
 have:=Znq (k:=k) (k' := k') (a:=a) (b:=b) (s:=[]) (t:=[]);simpa [kEq] using this
@[simp] theorem Zl7 {n : Nat} {k : IntKind} {a b : Arr n} {s t : List Cell} : kKind (arC k a++s) (arC k b++t) = kKind s t:=by
 have h : ∀ {l m : List Int},l.length = m.length→kKind (ints k l++s) (ints k m++t) = kKind s t:=by
  intro l;induction l with
  | nil=>intro m h; cases m with
   | nil=>simp [ints]
   | cons y m=>simp at h
  | cons x l ih=>intro m h; cases m with
   | nil=>simp at h
   | cons y m =>
    have:=ih (m:=m) (by simpa using h);simp only [ints] at this;simp [ints,kKind,kKind1,this]
 unfold arC;exact h (by rw [a.hl,b.hl])
@[simp] theorem Zuq {n : Nat} {k : IntKind} {a b : Arr n} : kKind (arC k a) (arC k b) = true:=by
 have:=Zl7 (k:=k) (a:=a) (b:=b) (s:=[]) (t:=[]);simpa [kKind] using this
@[simp] theorem Zvp {n : Nat} {k : IntKind} {a : Arr n} : (arC k a).all Cell.isI = true:=by simp [arC,ints,Cell.isI]
def Zju (l : List Int) : ByteArray:=⟨(l.map fun n=>UInt8.ofNat n.toNat).toArray⟩
def Zpi (s : ByteArray) : List Int:=s.data.toList.map fun b=>(b.toNat : Int)
@[simp] theorem Zsx (l : List Int) : Zjl (Zl .u8 l) = some (Zju l):=by
 have : bytesL (Zl .u8 l) = some (l.map fun n=>UInt8.ofNat n.toNat):=by
  induction l with
  | nil=>rfl
  | cons x l ih=>simp only [Zl,List.map_cons] at *; simp [bytesL,byteOf,ih]
 simp [Zjl,this,Zju]
@[simp] theorem ZtZ (s : ByteArray) : (s.data.toList.map fun b=>[Cell.v (.int .u8 (b.toNat : Int))]) = Zl .u8 (Zpi s):=by simp [Zl,Zpi]
@[simp] theorem ZtF (bx : Boxes) (o : Own) (els : List (List Cell)) : Zd5 bx (.slice o els) = some els:=rfl
@[simp] theorem ZuI (a b : ByteArray) : pureOf (Op.stringOp .eql a b) = some (.bool (decide (a = b))):=by
 have : (a == b) = decide (a = b):=by
  rw [Bool.eq_iff_iff,MapKept.bytes_beq];simp
 show some (Value.bool (a.toList == b.toList)) = _
 rw [← beq_toListBytes,this]
@[simp] theorem ZuJ (a b : ByteArray) : pureOf (Op.stringOp .neq a b) = some (.bool (!decide (a = b))):=by
 have : (a == b) = decide (a = b):=by
  rw [Bool.eq_iff_iff,MapKept.bytes_beq];simp
 show some (Value.bool (!(a.toList == b.toList))) = _
 rw [← beq_toListBytes,this]
end Go.Av
end
section
namespace Go.Lc
open Go.RowKit
open Go.Av
set_option maxRecDepth 100000
set_option linter.unusedSimpArgs false
set_option linter.unusedVariables false
abbrev Tapi_OutPoint:=(Arr 32)×Int
abbrev Tapi_Output:=Int×(List Int)
abbrev Tapi_Coin:=Tapi_OutPoint×Tapi_Output×Int×Bool
abbrev Tlightclientmill_Deck:=(List Int)×Int
abbrev Tapi_Input:=Tapi_OutPoint×Int×(List (List Int))
abbrev Tapi_Tx:=Int×(List Tapi_Input)×(List Tapi_Output)×Int
abbrev Tapi_Plan:=Tapi_Tx×(List Tapi_Coin)×Int×Int
noncomputable def Zcp (a0 : (List Int)) : Option (Tlightclientmill_Deck) :=
 some ((a0,0))
noncomputable def XW (a0 : Int) : Option ((List Int)) :=
 some ([1,1,IntKind.u8.wrap (1 + ((a0).tmod 6)),5])
noncomputable def Zcj (p2 : Int) : Option Int :=
 some (p2)
noncomputable def XN (a0 : Int) (a1 : Int) : Option (Int) :=
 (chk (a1≠0)).bind fun _=>(if (a0).tmod a1 < 0 then Zcj (IntKind.i64.wrap (((a0).tmod a1) + a1)) else Zcj ((a0).tmod a1))
noncomputable def XX (a0 : Tlightclientmill_Deck) : Option (Bool×Tlightclientmill_Deck) :=
 some ((decide (a0.2 < (a0.1.length : Int)),a0))
noncomputable def Yh (a0 : Tlightclientmill_Deck) (a1 : Int) : Option (Int×Tlightclientmill_Deck) :=
 (XX a0).bind fun y1=>(if ¬ (y1.1 = true) then some ((0,y1.2)) else (idx (y1.2.1) (IntKind.i64.wrap ((IntKind.i64.wrap (y1.2.2 + 1)) - 1))).bind fun x2=>(XN x2 a1).bind fun y3=>some ((y3,(y1.2.1,IntKind.i64.wrap (y1.2.2 + 1)))))
noncomputable def Zdj (a0 : Int) (a1 : Int) (a2 : Int) : Option (Bool) :=
 some ((decide (a1≤a0) && decide (a0≤a2)))
noncomputable def Z4 (a0 : (List Tapi_Input)) : Option (List Tapi_Input) :=
 (chk (a0.length≤2199023255552)).bind fun _=>some (a0)
noncomputable def Ys (a0 : (List Int)) (a1 : (List Int)) : Option ((List Int)) :=
 (chk (0≤IntKind.i64.wrap ((a0.length : Int) + (a1.length : Int))∧IntKind.i64.wrap ((a0.length : Int) + (a1.length : Int))≤140737488355328)).bind fun _=>(chk (a0.length≤140737488355328)).bind fun _=>(chk (a0.length + a1.length≤140737488355328)).bind fun _=>some (a0++a1)
noncomputable def Zep (p9 : (List Int)) : Option (List Int) :=
 some (p9)
noncomputable def Zbq (a1 : Int) (a0 : Int) : (Int×(List Int))→Option ((Int×(List Int)) ⊕ ((List Int)))
 | (p8,p9)=>(if p8 < a1 then (chk (¬ (IntKind.i64.wrap (8 * p8) < 0))).bind fun _=>(inA (p9.length) (p8)).bind fun j13=>some (.inl (IntKind.i64.wrap (p8 + 1),(p9).set j13 (IntKind.u8.wrap ((a0).fdiv (2 ^ (min (IntKind.i64.wrap (8 * p8)).toNat 64)))))) else (Zep p9).map Sum.inr)
noncomputable def YJ (a0 : Int) (a1 : Int) : Option ((List Int)) :=
 (chk (0≤a1∧a1≤140737488355328)).bind fun _=>Zu (Zbq a1 a0) (0,List.replicate ((a1).toNat) 0)
noncomputable def YB (a0 : (List Int)) (a1 : Int) : Option ((List Int)) :=
 (YJ (IntKind.u64.wrap (a1)) 4).bind fun y1=>(Ys a0 y1).bind fun y2=>some (y2)
noncomputable def Y0 (a0 : (List Int)) (a1 : Int) : Option ((List Int)) :=
 (YJ a1 8).bind fun y1=>(Ys a0 y1).bind fun y2=>some (y2)
noncomputable def Xj (a0 : (List Int)) (a1 : Int) : Option ((List Int)) :=
 (YJ (IntKind.u64.wrap (a1)) 2).bind fun y1=>(Ys a0 y1).bind fun y2=>some (y2)
noncomputable def YD (a0 : (List Int)) (a1 : Int) : Option ((List Int)) :=
 (if a1 < 253 then (Ys a0 [IntKind.u8.wrap (a1)]).bind fun y1=>some (y1) else (if a1 < 65536 then (Ys a0 [253]).bind fun y2=>(Xj y2 (IntKind.u16.wrap (a1))).bind fun y3=>some (y3) else (if a1 < 4294967296 then (Ys a0 [254]).bind fun y4=>(YB y4 (IntKind.u32.wrap (a1))).bind fun y5=>some (y5) else (Ys a0 [255]).bind fun y6=>(Y0 y6 a1).bind fun y7=>some (y7))))
noncomputable def Y4 (a0 : (List Int)) (a1 : (Arr 32)) : Option ((List Int)) :=
 (Ys a0 a1.l).bind fun y1=>some (y1)
noncomputable def Zcq (a0 : Tapi_OutPoint) : Option ((List Int)) :=
 (Y4 ([] : (List Int)) a0.1).bind fun y1=>(YB y1 a0.2).bind fun y2=>some (y2)
noncomputable def YM (a0 : (List Int)) (a1 : (List Int)) : Option ((List Int)) :=
 (YD a0 (IntKind.u64.wrap ((a1.length : Int)))).bind fun y1=>(Ys y1 a1).bind fun y2=>some (y2)
noncomputable def ZfP (p81 : (List Int)) : Option (List Int) :=
 some (p81)
noncomputable def ZfQ (p80 : Int) (p110 : (List Int)) : Option ((Int×(List Int)) ⊕ ((List Int))) :=
 some (.inl (IntKind.i64.wrap (p80 + 1),p110))
noncomputable def ZbD (x98 : Tapi_Input) (p80 : Int) : (Int×(List Int))→Option ((Int×(List Int)) ⊕ ((Int×(List Int)) ⊕ ((List Int))))
 | (p109,p110)=>(if p109 < (x98.2.2.length : Int) then (idx (x98.2.2) (p109)).bind fun x114=>(YM ([] : (List Int)) x114).bind fun y115=>(chk (p110.length + y115.length≤140737488355328)).bind fun _=>some (.inl (IntKind.i64.wrap (p109 + 1),p110++y115)) else (ZfQ p80 p110).map Sum.inr)
noncomputable def ZcO (a0 : Tapi_Tx) : (Int×(List Int))→Option ((Int×(List Int)) ⊕ ((List Int)))
 | (p80,p81)=>(if p80 < (a0.2.1.length : Int) then (idx (a0.2.1) (p80)).bind fun x98=>(YD ([] : (List Int)) (IntKind.u64.wrap ((x98.2.2.length : Int)))).bind fun y99=>(chk (p81.length + y99.length≤140737488355328)).bind fun _=>Zu (ZbD x98 p80) (0,p81++y99) else (ZfP p81).map Sum.inr)
noncomputable def Zd9 (a0 : Tapi_Tx) (p38 : (List Int)) (a1 : Bool) : Option (List Int) :=
 (YB ([] : (List Int)) a0.2.2.2).bind fun y44=>(chk (p38.length + y44.length≤140737488355328)).bind fun _=>(if ¬ (a1 = true) then some (p38++y44) else Zu (ZcO a0) (0,p38++y44))
noncomputable def ZcP (a0 : Tapi_Tx) (a1 : Bool) : (Int×(List Int))→Option ((Int×(List Int)) ⊕ ((List Int)))
 | (p37,p38)=>(if p37 < (a0.2.2.1.length : Int) then (idx (a0.2.2.1) (p37)).bind fun x117=>(Y0 ([] : (List Int)) (IntKind.u64.wrap (x117.1))).bind fun y118=>(chk (p38.length + y118.length≤140737488355328)).bind fun _=>(YM ([] : (List Int)) x117.2).bind fun y120=>(chk (p38.length + y118.length + y120.length≤140737488355328)).bind fun _=>some (.inl (IntKind.i64.wrap (p37 + 1),p38++y118++y120)) else (Zd9 a0 p38 a1).map Sum.inr)
noncomputable def Zea (a0 : Tapi_Tx) (p17 : (List Int)) (a1 : Bool) : Option (List Int) :=
 (YD ([] : (List Int)) (IntKind.u64.wrap ((a0.2.2.1.length : Int)))).bind fun y23=>(chk (p17.length + y23.length≤140737488355328)).bind fun _=>Zu (ZcP a0 a1) (0,p17++y23)
noncomputable def ZcQ (a0 : Tapi_Tx) (a1 : Bool) : (Int×(List Int))→Option ((Int×(List Int)) ⊕ ((List Int)))
 | (p16,p17)=>(if p16 < (a0.2.1.length : Int) then (idx (a0.2.1) (p16)).bind fun x122=>(Zcq x122.1).bind fun y123=>(chk (p17.length + y123.length≤140737488355328)).bind fun _=>(YB ([] : (List Int)) x122.2.1).bind fun y125=>(chk (p17.length + y123.length + y125.length≤140737488355328)).bind fun _=>some (.inl (IntKind.i64.wrap (p16 + 1),p17++y123++y125)) else (Zea a0 p17 a1).map Sum.inr)
noncomputable def ZbO (a0 : Tapi_Tx) (a1 : Bool) : Option ((List Int)) :=
 (YB ([] : (List Int)) a0.1).bind fun y1=>(YD ([] : (List Int)) (IntKind.u64.wrap ((a0.2.1.length : Int)))).bind fun y2=>(chk (y1.length + y2.length≤140737488355328)).bind fun _=>Zu (ZcQ a0 a1) (0,y1++y2)
noncomputable def Zfz (a0 : Tapi_Tx) : Option Bool :=
 (ZbO a0 true).bind fun y26=>some (decide ((y26.length : Int)≤20000))
noncomputable def Zg7 (p19 : Int) : Option ((Int) ⊕ (Bool)) :=
 some (.inl (IntKind.i64.wrap (p19 + 1)))
noncomputable def Zcc (x27 : Tapi_Input) (p19 : Int) : Int→Option ((Int) ⊕ ((Int) ⊕ (Bool)))
 | p31=>(if p31 < (x27.2.2.length : Int) then (idx (x27.2.2) (p31)).bind fun x33=>(if 520 < (x33.length : Int) then some (.inr (.inr (false))) else some (.inl (IntKind.i64.wrap (p31 + 1)))) else (Zg7 p19).map Sum.inr)
noncomputable def Zc1 (a0 : Tapi_Tx) : Int→Option ((Int) ⊕ (Bool))
 | p19=>(if p19 < (a0.2.1.length : Int) then (idx (a0.2.1) (p19)).bind fun x27=>(if 32 < (x27.2.2.length : Int) then some (.inr (false)) else Zu (Zcc x27 p19) 0) else (Zfz a0).map Sum.inr)
noncomputable def ZfA (a0 : Tapi_Tx) : Option Bool :=
 Zu (Zc1 a0) 0
noncomputable def Zc2 (a0 : Tapi_Tx) : Int→Option ((Int) ⊕ (Bool))
 | p4=>(if p4 < (a0.2.2.1.length : Int) then (idx (a0.2.2.1) (p4)).bind fun x34=>(if (x34.1 < 0∨520 < (x34.2.length : Int)) then some (.inr (false)) else some (.inl (IntKind.i64.wrap (p4 + 1)))) else (ZfA a0).map Sum.inr)
noncomputable def Zdk (a0 : Tapi_Tx) : Option (Bool) :=
 (if (64 < (a0.2.1.length : Int)∨64 < (a0.2.2.1.length : Int)) then some (false) else Zu (Zc2 a0) 0)
noncomputable def Z9 (a0 : (List Int)) (a1 : (List Int)) : Option ((List Int)) :=
 (chk (0≤IntKind.i64.wrap ((a0.length : Int) + (a1.length : Int))∧IntKind.i64.wrap ((a0.length : Int) + (a1.length : Int))≤140737488355328)).bind fun _=>(chk (a0.length≤140737488355328)).bind fun _=>(chk (a0.length + a1.length≤140737488355328)).bind fun _=>some (a0++a1)
noncomputable def Zeq (p9 : (List Int)) : Option (List Int) :=
 some (p9)
noncomputable def Zbr (a1 : Int) (a0 : Int) : (Int×(List Int))→Option ((Int×(List Int)) ⊕ ((List Int)))
 | (p8,p9)=>(if p8 < ((List.replicate ((a1).toNat) 0).length : Int) then (chk (¬ (IntKind.i64.wrap (8 * p8) < 0))).bind fun _=>(inA (p9.length) (p8)).bind fun j13=>some (.inl (IntKind.i64.wrap (p8 + 1),(p9).set j13 (IntKind.u8.wrap ((a0).fdiv (2 ^ (min (IntKind.i64.wrap (8 * p8)).toNat 64)))))) else (Zeq p9).map Sum.inr)
noncomputable def Ye (a0 : Int) (a1 : Int) : Option ((List Int)) :=
 (chk (0≤a1∧a1≤140737488355328)).bind fun _=>Zu (Zbr a1 a0) (0,List.replicate ((a1).toNat) 0)
noncomputable def YG (a0 : (List Int)) (a1 : Int) : Option ((List Int)) :=
 (Ye (IntKind.u64.wrap (a1)) 4).bind fun y1=>(Z9 a0 y1).bind fun y2=>some (y2)
noncomputable def YE (a0 : (List Int)) (a1 : Int) : Option ((List Int)) :=
 (if a1 < 253 then (Ye a1 1).bind fun y1=>(Z9 a0 y1).bind fun y2=>some (y2) else (if a1 < 65536 then (Ye a1 2).bind fun y3=>(Z9 [253] y3).bind fun y4=>(Z9 a0 y4).bind fun y5=>some (y5) else (if a1 < 4294967296 then (Ye a1 4).bind fun y6=>(Z9 [254] y6).bind fun y7=>(Z9 a0 y7).bind fun y8=>some (y8) else (Ye a1 8).bind fun y9=>(Z9 [255] y9).bind fun y10=>(Z9 a0 y10).bind fun y11=>some (y11))))
noncomputable def Y5 (a0 : (List Int)) (a1 : (Arr 32)) : Option ((List Int)) :=
 (Z9 a0 a1.l).bind fun y1=>some (y1)
noncomputable def ZaB (a0 : Tapi_OutPoint) : Option ((List Int)) :=
 (Y5 ([] : (List Int)) a0.1).bind fun y1=>(YG y1 a0.2).bind fun y2=>some (y2)
noncomputable def YN (a0 : (List Int)) (a1 : (List Int)) : Option ((List Int)) :=
 (YE a0 (IntKind.u64.wrap ((a1.length : Int)))).bind fun y1=>(Z9 y1 a1).bind fun y2=>some (y2)
noncomputable def Xk (a0 : (List Int)) (a1 : Int) : Option ((List Int)) :=
 (Ye a1 8).bind fun y1=>(Z9 a0 y1).bind fun y2=>some (y2)
noncomputable def ZbP (a0 : Tapi_Output) : Option ((List Int)) :=
 (Xk ([] : (List Int)) (IntKind.u64.wrap (a0.1))).bind fun y1=>(YN y1 a0.2).bind fun y2=>some (y2)
noncomputable def Xl (p61 : (List Int)) : Option (List Int) :=
 some (p61)
noncomputable def Zer (p60 : Int) (p83 : (List Int)) : Option ((Int×(List Int)) ⊕ ((List Int))) :=
 some (.inl (IntKind.i64.wrap (p60 + 1),p83))
noncomputable def Zan (x74 : Tapi_Input) (p60 : Int) : (Int×(List Int))→Option ((Int×(List Int)) ⊕ ((Int×(List Int)) ⊕ ((List Int))))
 | (p82,p83)=>(if p82 < (x74.2.2.length : Int) then (idx (x74.2.2) (p82)).bind fun x86=>(YN p83 x86).bind fun y87=>some (.inl (IntKind.i64.wrap (p82 + 1),y87)) else (Zer p60 p83).map Sum.inr)
noncomputable def XL (a0 : Tapi_Tx) (a1 : Bool) : (Int×(List Int))→Option ((Int×(List Int)) ⊕ ((List Int)))
 | (p60,p61)=>(if p60 < (a0.2.1.length : Int) then (idx (a0.2.1) (p60)).bind fun x74=>(if ¬ (a1 = true) then (Xl p61).map Sum.inr else (YE p61 (IntKind.u64.wrap ((x74.2.2.length : Int)))).bind fun y75=>Zu (Zan x74 p60) (0,y75)) else (Xl p61).map Sum.inr)
noncomputable def ZcB (p29 : (List Int)) (a0 : Tapi_Tx) (a1 : Bool) : Option (List Int) :=
 (YG p29 a0.2.2.2).bind fun y33=>Zu (XL a0 a1) (0,y33)
noncomputable def Zbs (a0 : Tapi_Tx) (a1 : Bool) : (Int×(List Int))→Option ((Int×(List Int)) ⊕ ((List Int)))
 | (p28,p29)=>(if p28 < (a0.2.2.1.length : Int) then (idx (a0.2.2.1) (p28)).bind fun x88=>(ZbP x88).bind fun y89=>(chk (p29.length + y89.length≤140737488355328)).bind fun _=>some (.inl (IntKind.i64.wrap (p28 + 1),p29++y89)) else (ZcB p29 a0 a1).map Sum.inr)
noncomputable def ZcC (p14 : (List Int)) (a0 : Tapi_Tx) (a1 : Bool) : Option (List Int) :=
 (YE p14 (IntKind.u64.wrap ((a0.2.2.1.length : Int)))).bind fun y19=>Zu (Zbs a0 a1) (0,y19)
noncomputable def Zbt (a0 : Tapi_Tx) (a1 : Bool) : (Int×(List Int))→Option ((Int×(List Int)) ⊕ ((List Int)))
 | (p13,p14)=>(if p13 < (a0.2.1.length : Int) then (idx (a0.2.1) (p13)).bind fun x91=>(ZaB x91.1).bind fun y92=>(chk (p14.length + y92.length≤140737488355328)).bind fun _=>(YG (p14++y92) x91.2.1).bind fun y94=>some (.inl (IntKind.i64.wrap (p13 + 1),y94)) else (ZcC p14 a0 a1).map Sum.inr)
noncomputable def Zae (a0 : Tapi_Tx) (a1 : Bool) : Option ((List Int)) :=
 (YG ([] : (List Int)) a0.1).bind fun y1=>(YE y1 (IntKind.u64.wrap ((a0.2.1.length : Int)))).bind fun y2=>Zu (Zbt a0 a1) (0,y2)
noncomputable def ZdE (a0 : Tapi_Tx) : Option Bool :=
 (Zae a0 true).bind fun y26=>some (decide ((y26.length : Int)≤20000))
noncomputable def Zfe (p19 : Int) : Option ((Int) ⊕ (Bool)) :=
 some (.inl (IntKind.i64.wrap (p19 + 1)))
noncomputable def Zao (x27 : Tapi_Input) (p19 : Int) : Int→Option ((Int) ⊕ ((Int) ⊕ (Bool)))
 | p31=>(if p31 < (x27.2.2.length : Int) then (idx (x27.2.2) (p31)).bind fun x33=>(if 520 < (x33.length : Int) then some (.inr (.inr (false))) else some (.inl (IntKind.i64.wrap (p31 + 1)))) else (Zfe p19).map Sum.inr)
noncomputable def Zbl (a0 : Tapi_Tx) : Int→Option ((Int) ⊕ (Bool))
 | p19=>(if p19 < (a0.2.1.length : Int) then (idx (a0.2.1) (p19)).bind fun x27=>(if 32 < (x27.2.2.length : Int) then some (.inr (false)) else Zu (Zao x27 p19) 0) else (ZdE a0).map Sum.inr)
noncomputable def ZdF (a0 : Tapi_Tx) : Option Bool :=
 Zu (Zbl a0) 0
noncomputable def Zbm (a0 : Tapi_Tx) : Int→Option ((Int) ⊕ (Bool))
 | p4=>(if p4 < (a0.2.2.1.length : Int) then (idx (a0.2.2.1) (p4)).bind fun x34=>(if (x34.1 < 0∨520 < (x34.2.length : Int)) then some (.inr (false)) else some (.inl (IntKind.i64.wrap (p4 + 1)))) else (ZdF a0).map Sum.inr)
noncomputable def Zbd (a0 : Tapi_Tx) : Option (Bool) :=
 (if (64 < (a0.2.1.length : Int)∨64 < (a0.2.2.1.length : Int)) then some (false) else Zu (Zbm a0) 0)
noncomputable def Zaf (p20 : (List Tapi_Input)) (y1 : (Int×Tlightclientmill_Deck)) (p21 : (List Tapi_Coin)) (p33 : Int) (p34 : Int) (p35 : (List Tapi_Output)) (p36 : Tlightclientmill_Deck) : Option (Tapi_Plan×Tlightclientmill_Deck) :=
 some ((((1,p20,p35,IntKind.u32.wrap (y1.1)),p21,p33,p34),p36))
noncomputable def ZfR (p19 : Tlightclientmill_Deck) (p20 : (List Tapi_Input)) (y1 : (Int×Tlightclientmill_Deck)) (p21 : (List Tapi_Coin)) (p17 : Int) : Option (Tapi_Plan×Tlightclientmill_Deck) :=
 (Yh p19 900).bind fun y28=>(XW 0).bind fun y29=>(XW 1).bind fun y30=>(Yh y28.2 4).bind fun y31=>(if y31.1 = 0 then Zaf p20 y1 p21 y28.1 (-1) [(5000,y29),(IntKind.i64.wrap ((IntKind.i64.wrap (p17 - 5000)) - y28.1),y30)] y31.2 else (if y31.1 = 1 then (Yh y31.2 500).bind fun y37=>Zaf p20 y1 p21 (IntKind.i64.wrap ((IntKind.i64.wrap ((IntKind.i64.wrap (y28.1 + ((IntKind.i64.wrap ((IntKind.i64.wrap (p17 - 5000)) - y28.1),y30).1))) - 301)) - y37.1)) 1 [(5000,y29),(IntKind.i64.wrap ((IntKind.i64.wrap (p17 - 5000)) - (IntKind.i64.wrap ((IntKind.i64.wrap ((IntKind.i64.wrap (y28.1 + ((IntKind.i64.wrap ((IntKind.i64.wrap (p17 - 5000)) - y28.1),y30).1))) - 301)) - y37.1))),(IntKind.i64.wrap ((IntKind.i64.wrap (p17 - 5000)) - y28.1),y30).2)] y37.2 else Zaf p20 y1 p21 y28.1 1 [(5000,y29),(IntKind.i64.wrap ((IntKind.i64.wrap (p17 - 5000)) - y28.1),y30)] y31.2))
noncomputable def ZfS (a1 : (List (List Int))) (y1 : (Int×Tlightclientmill_Deck)) : (Int×Int×Tlightclientmill_Deck×(List Tapi_Input)×(List Tapi_Coin))→Option ((Int×Int×Tlightclientmill_Deck×(List Tapi_Input)×(List Tapi_Coin)) ⊕ (Tapi_Plan×Tlightclientmill_Deck))
 | (p17,p18,p19,p20,p21)=>(if p18 < (a1.length : Int) then (idx (a1) (p18)).bind fun x38=>(chk (p21.length + 1≤1599289640401)).bind fun _=>(Yh p19 3).bind fun y40=>(inA (3) (y40.1)).bind fun j41=>(([4294967295,0,4294967293])[j41]?).bind fun x42=>(chk (p20.length + 1≤2199023255552)).bind fun _=>some (.inl (IntKind.i64.wrap (p17 + 10000),IntKind.i64.wrap (p18 + 1),y40.2,p20++[((((zA 32).put 0 1).put 1 (IntKind.u8.wrap (p18)),IntKind.u32.wrap (p18)),x42,([] : (List (List Int))))],p21++[((((zA 32).put 0 1).put 1 (IntKind.u8.wrap (p18)),IntKind.u32.wrap (p18)),(10000,x38),1,false)])) else (ZfR p19 p20 y1 p21 p17).map Sum.inr)
noncomputable def ZbQ (a0 : Tlightclientmill_Deck) (a1 : (List (List Int))) : Option (Tapi_Plan×Tlightclientmill_Deck) :=
 (Yh a0 3).bind fun y1=>Zu (ZfS a1 y1) (0,0,y1.2,[],[])
noncomputable def Zes (a0 : Tapi_OutPoint) : Option (Bool) :=
 some ((decide (a0.1 = zA 32) && decide (a0.2 = 4294967295)))
noncomputable def XY (a0 : Tapi_Tx) : Option (Bool) :=
 ((if (a0.2.1.length : Int) = 1 then ((a0.2.1)[0]?).bind fun x1=>(Zes x1.1).bind fun y2=>some (y2) else some (false))).bind fun z3=>some ((decide ((a0.2.1.length : Int) = 1) && z3))
noncomputable def Ltx_money_k1 : Option Bool :=
 some (true)
noncomputable def Zck (a0 : (List Tapi_Output)) : (Int×Int)→Option ((Int×Int) ⊕ (Bool))
 | (p5,p6)=>(if p6 < (a0.length : Int) then (idx (a0) (p6)).bind fun x8=>(if IntKind.i64.wrap (2100000000000000 - p5) < x8.1 then some (.inr (false)) else some (.inl (IntKind.i64.wrap (p5 + x8.1),IntKind.i64.wrap (p6 + 1)))) else (Ltx_money_k1).map Sum.inr)
noncomputable def Zcr (a0 : (List Tapi_Output)) : Option (Bool) :=
 Zu (Zck a0) (0,0)
noncomputable def Zgz (p8 : (List (Tapi_OutPoint×Bool))) (a0 : Tapi_Tx) : Option Int :=
 ((if (Zc5 (zA 32,4294967295) p8).getD false = true then (XY a0).bind fun y10=>some (!(y10)) else some (false))).bind fun z11=>(if ((Zc5 (zA 32,4294967295) p8).getD false = true∧z11 = true) then some (92) else some (0))
noncomputable def Zcl (a0 : Tapi_Tx) : (Int×(List (Tapi_OutPoint×Bool)))→Option ((Int×(List (Tapi_OutPoint×Bool))) ⊕ (Int))
 | (p7,p8)=>(if p7 < (a0.2.1.length : Int) then (idx (a0.2.1) (p7)).bind fun x12=>(if (Zc5 x12.1 p8).getD false = true then some (.inr (91)) else some (.inl (IntKind.i64.wrap (p7 + 1),ZfO x12.1 true p8))) else (Zgz p8 a0).map Sum.inr)
noncomputable def ZbR (a0 : Tapi_Tx) : Option (Int) :=
 (Zdk a0).bind fun y1=>(if ¬ (y1 = true) then some (4) else (if ((a0.2.1.length : Int) = 0∨(a0.2.2.1.length : Int) = 0) then some (93) else (Zcr a0.2.2.1).bind fun y2=>(if ¬ (y2 = true) then some (90) else Zu (Zcl a0) (0,([] : (List (Tapi_OutPoint×Bool)))))))
noncomputable def Zir (p5 : Int) : Option (Int×Bool) :=
 some ((p5,true))
noncomputable def ZbE (a0 : (List Tapi_Coin)) : (Int×Int)→Option ((Int×Int) ⊕ (Int×Bool))
 | (p5,p6)=>(if p6 < (a0.length : Int) then (idx (a0) (p6)).bind fun x8=>(if (x8.2.1.1 < 0∨IntKind.i64.wrap (2100000000000000 - p5) < x8.2.1.1) then some (.inr ((0,false))) else some (.inl (IntKind.i64.wrap (p5 + x8.2.1.1),IntKind.i64.wrap (p6 + 1)))) else (Zir p5).map Sum.inr)
noncomputable def ZbS (a0 : (List Tapi_Coin)) : Option (Int×Bool) :=
 Zu (ZbE a0) (0,0)
noncomputable def Zis (p15 : Int) : Option (Int×Int) :=
 (if p15 < 0 then some ((0,100)) else some ((p15,0)))
noncomputable def ZfT (a0 : Tapi_Tx) : (Int×Int)→Option ((Int×Int) ⊕ (Int×Int))
 | (p15,p16)=>(if p16 < (a0.2.2.1.length : Int) then (idx (a0.2.2.1) (p16)).bind fun x18=>some (.inl (IntKind.i64.wrap (p15 - x18.1),IntKind.i64.wrap (p16 + 1))) else (Zis p15).map Sum.inr)
noncomputable def Zeb (a1 : (List Tapi_Coin)) (a0 : Tapi_Tx) : Option (Int×Int) :=
 (ZbS a1).bind fun y10=>(if ¬ (y10.2 = true) then some ((0,90)) else Zu (ZfT a0) (y10.1,0))
noncomputable def ZbF (a1 : (List Tapi_Coin)) (a0 : Tapi_Tx) : Int→Option ((Int) ⊕ (Int×Int))
 | p7=>(if p7 < (a1.length : Int) then (idx (a1) (p7)).bind fun x19=>(idx (a0.2.1) (p7)).bind fun x20=>(if ¬ ((x19.1.1 = x20.1.1∧x19.1.2 = x20.1.2)) then some (.inr ((0,101))) else some (.inl (IntKind.i64.wrap (p7 + 1)))) else (Zeb a1 a0).map Sum.inr)
noncomputable def ZbT (a0 : Tapi_Tx) (a1 : (List Tapi_Coin)) : Option (Int×Int) :=
 (ZbR a0).bind fun y1=>(if ¬ (y1 = 0) then some ((0,y1)) else (if ¬ ((a1.length : Int) = (a0.2.1.length : Int)) then some ((0,8)) else Zu (ZbF a1 a0) 0))
noncomputable def Zc8 (a0 : Tapi_Plan) : Option Bool :=
 (if (a0.2.2.2 < (-1)∨(a0.1.2.2.1.length : Int)≤a0.2.2.2) then some (false) else (ZbT a0.1 a0.2.1).bind fun y9=>some ((decide (y9.2 = 0) && decide (y9.1 = a0.2.2.1))))
noncomputable def YY (a0 : Tapi_Plan) : Int→Option ((Int) ⊕ (Bool))
 | p7=>(if p7 < (a0.1.2.1.length : Int) then (idx (a0.1.2.1) (p7)).bind fun x10=>(if 0 < (x10.2.2.length : Int) then some (.inr (false)) else some (.inl (IntKind.i64.wrap (p7 + 1)))) else (Zc8 a0).map Sum.inr)
noncomputable def XB (a0 : Tapi_Plan) : Option (Bool) :=
 (ZbR a0.1).bind fun y1=>((if ¬ (y1 = 0) then some (false) else (XY a0.1).bind fun y2=>some (y2))).bind fun z3=>(if (¬ (y1 = 0)∨z3 = true) then some (false) else Zu (YY a0) 0)
noncomputable def Zat (a0 : Tapi_OutPoint) : Option (Bool) :=
 some ((decide (a0.1 = zA 32) && decide (a0.2 = 4294967295)))
noncomputable def Xw (a0 : Tapi_Tx) : Option (Bool) :=
 ((if (a0.2.1.length : Int) = 1 then ((a0.2.1)[0]?).bind fun x1=>(Zat x1.1).bind fun y2=>some (y2) else some (false))).bind fun z3=>some ((decide ((a0.2.1.length : Int) = 1) && z3))
noncomputable def Lref09_Check_k3 : Option Int :=
 some (0)
noncomputable def ZaN (a0 : Tapi_Tx) : Int→Option ((Int) ⊕ (Int))
 | p43=>(if p43 < (a0.2.1.length : Int) then (idx (a0.2.1) (p43)).bind fun x48=>(Zat x48.1).bind fun y49=>((if y49 = true then (Xw a0).bind fun y50=>some (!(y50)) else some (false))).bind fun z51=>(if (y49 = true∧z51 = true) then some (.inr (92)) else some (.inl (IntKind.i64.wrap (p43 + 1)))) else (Lref09_Check_k3).map Sum.inr)
noncomputable def Zc9 (a0 : Tapi_Tx) : Option Int :=
 Zu (ZaN a0) 0
noncomputable def ZeQ (p25 : Int) : Option ((Int) ⊕ (Int)) :=
 some (.inl (IntKind.i64.wrap (p25 + 1)))
noncomputable def XZ (p25 : Int) (a0 : Tapi_Tx) : Int→Option ((Int) ⊕ ((Int) ⊕ (Int)))
 | p57=>(if p57 < p25 then (idx (a0.2.1) (p25)).bind fun x60=>(idx (a0.2.1) (p57)).bind fun x61=>(if (x60.1.1 = x61.1.1∧x60.1.2 = x61.1.2) then some (.inr (.inr (91))) else some (.inl (IntKind.i64.wrap (p57 + 1)))) else (ZeQ p25).map Sum.inr)
noncomputable def ZaO (a0 : Tapi_Tx) : Int→Option ((Int) ⊕ (Int))
 | p25=>(if p25 < (a0.2.1.length : Int) then Zu (XZ p25 a0) 0 else (Zc9 a0).map Sum.inr)
noncomputable def ZbU (p6 : Int) (a0 : Tapi_Tx) : Option Int :=
 (if 2100000000000000 < p6 then some (90) else Zu (ZaO a0) 0)
noncomputable def ZaP (a0 : Tapi_Tx) : (Int×Int)→Option ((Int×Int) ⊕ (Int))
 | (p6,p7)=>(if p7 < (a0.2.2.1.length : Int) then (idx (a0.2.2.1) (p7)).bind fun x62=>(if 2100000000000000 < x62.1 then some (.inr (90)) else some (.inl (IntKind.i64.wrap (p6 + x62.1),IntKind.i64.wrap (p7 + 1)))) else (ZbU p6 a0).map Sum.inr)
noncomputable def X0 (a0 : Tapi_Tx) : Option (Int) :=
 (Zbd a0).bind fun y1=>(if ¬ (y1 = true) then some (4) else (if ((a0.2.1.length : Int) = 0∨(a0.2.2.1.length : Int) = 0) then some (93) else Zu (ZaP a0) (0,0)))
noncomputable def ZcR (p21 : Int) : Option (Int×Int) :=
 (if p21 < 0 then some ((0,100)) else some ((p21,0)))
noncomputable def XE (a0 : Tapi_Tx) : (Int×Int)→Option ((Int×Int) ⊕ (Int×Int))
 | (p21,p22)=>(if p22 < (a0.2.2.1.length : Int) then (idx (a0.2.2.1) (p22)).bind fun x24=>some (.inl (IntKind.i64.wrap (p21 - x24.1),IntKind.i64.wrap (p22 + 1))) else (ZcR p21).map Sum.inr)
noncomputable def Zec (p14 : Int) (a0 : Tapi_Tx) : Option (Int×Int) :=
 (if 2100000000000000 < p14 then some ((0,90)) else Zu (XE a0) (p14,0))
noncomputable def ZbG (a1 : (List Tapi_Coin)) (a0 : Tapi_Tx) : (Int×Int)→Option ((Int×Int) ⊕ (Int×Int))
 | (p14,p15)=>(if p15 < (a1.length : Int) then (idx (a1) (p15)).bind fun x25=>(if (x25.2.1.1 < 0∨2100000000000000 < x25.2.1.1) then some (.inr ((0,90))) else some (.inl (IntKind.i64.wrap (p14 + x25.2.1.1),IntKind.i64.wrap (p15 + 1)))) else (Zec p14 a0).map Sum.inr)
noncomputable def ZcS (a1 : (List Tapi_Coin)) (a0 : Tapi_Tx) : Option (Int×Int) :=
 Zu (ZbG a1 a0) (0,0)
noncomputable def ZbH (a1 : (List Tapi_Coin)) (a0 : Tapi_Tx) : Int→Option ((Int) ⊕ (Int×Int))
 | p7=>(if p7 < (a1.length : Int) then (idx (a1) (p7)).bind fun x26=>(idx (a0.2.1) (p7)).bind fun x27=>(if ¬ ((x26.1.1 = x27.1.1∧x26.1.2 = x27.1.2)) then some (.inr ((0,101))) else some (.inl (IntKind.i64.wrap (p7 + 1)))) else (ZcS a1 a0).map Sum.inr)
noncomputable def ZbV (a0 : Tapi_Tx) (a1 : (List Tapi_Coin)) : Option (Int×Int) :=
 (X0 a0).bind fun y1=>(if ¬ (y1 = 0) then some ((0,y1)) else (if ¬ ((a1.length : Int) = (a0.2.1.length : Int)) then some ((0,8)) else Zu (ZbH a1 a0) 0))
noncomputable def ZeR (a0 : Tapi_Plan) : Option Bool :=
 (ZbV a0.1 a0.2.1).bind fun y11=>some ((decide (y11.2 = 0) && decide (y11.1 = a0.2.2.1)))
noncomputable def ZaQ (a0 : Tapi_Plan) : Int→Option ((Int) ⊕ (Bool))
 | p9=>(if p9 < (a0.1.2.1.length : Int) then (idx (a0.1.2.1) (p9)).bind fun x12=>(if 0 < (x12.2.2.length : Int) then some (.inr (false)) else some (.inl (IntKind.i64.wrap (p9 + 1)))) else (ZeR a0).map Sum.inr)
noncomputable def X1 (a0 : Tapi_Plan) : Option (Bool) :=
 (X0 a0.1).bind fun y1=>((if ¬ (y1 = 0) then some (false) else (Xw a0.1).bind fun y2=>some (y2))).bind fun z3=>((if (¬ (y1 = 0)∨z3 = true) then some (false) else (Zdj a0.2.2.2 (-1) (IntKind.i64.wrap ((a0.1.2.2.1.length : Int) - 1))).bind fun y4=>some (!(y4)))).bind fun z5=>(if ((¬ (y1 = 0)∨z3 = true)∨z5 = true) then some (false) else Zu (ZaQ a0) 0)
def ZlJ (x : (List Int)) : Prop:=x.length≤maxLen∧∀ a∈x,(-9223372036854775808≤a∧a≤9223372036854775807)
end Go.Lc
end
section
namespace Go.Av
open Go.RowKit
set_option linter.unusedVariables false
def Zg8 (n : Nat) (l : List Int) : Arr n:=if h : n≤l.length then ⟨l.take n,by simp [h]⟩ else zA n
theorem ZlK {k : IntKind} (l : List Int) : (Zl k l).flatten = ints k l:=by
 induction l with
 | nil=>rfl
 | cons x l ih=>simp only [Zl,ints,List.map_cons,List.flatten_cons] at *; rw [ih]; rfl
theorem ZiX {k : IntKind} {l : List Int} {o n : Nat} (h : o + n≤l.length) : List.take n (List.drop o (Zl k l).flatten) = arC k (Zg8 n (l.drop o)):=by
 have h' : n≤(l.drop o).length:=by simp; omega
 unfold Zg8;rw [dif_pos h',ZlK];simp [arC,ints,List.map_take,List.map_drop]
@[simp high] theorem Zit {k : IntKind} {l : List Int} : (Zl k l).flatten.length = l.length:=by rw [ZlK]; simp [ints]
def Arr.over {n : Nat} (a : Arr n) (l : List Int) : Arr n:=⟨l.take n++a.l.drop (min l.length n),by have:=a.hl; simp; omega⟩
@[simp] theorem sg_u8 : IntKind.u8.signed = false:=rfl
@[simp] theorem mx_u8 : IntKind.u8.max = 255:=rfl
@[simp] theorem sg_u16 : IntKind.u16.signed = false:=rfl
@[simp] theorem mx_u16 : IntKind.u16.max = 65535:=rfl
@[simp] theorem sg_u32 : IntKind.u32.signed = false:=rfl
@[simp] theorem mx_u32 : IntKind.u32.max = 4294967295:=rfl
@[simp] theorem sg_u64 : IntKind.u64.signed = false:=rfl
@[simp] theorem mx_u64 : IntKind.u64.max = 18446744073709551615:=rfl
@[simp] theorem sg_i8 : IntKind.i8.signed = true:=rfl
@[simp] theorem sg_i16 : IntKind.i16.signed = true:=rfl
@[simp] theorem sg_i32 : IntKind.i32.signed = true:=rfl
@[simp] theorem sg_i64 : IntKind.i64.signed = true:=rfl
theorem Zo {α β : Type} {enc : α→List PV} (hi : ∀ a b,enc a = enc b→a = b) {g : α→Option β} {R : α→β→PV×List (List Cell)} {x : α} {y : β} (h : g x = some y) : ZL enc (fun x=>(g x).map (R x)) (enc x) = some (R x y):=by
 rw [Zrw hi,h]; rfl
theorem mkI {P : Program} {tt : TT} {T : Tab} {G : Glob} {α β : Type} {enc : α→List PV} {g : α→Option β} {R : α→β→PV×List (List Cell)} (hm : P.follows .mixedOrders = true) (htt : ∀ t i,tt t = some i→Yg P t = some i) (hT : ∀ f F,T f = some F→ZbL P G (f % 1000000) F) {f : FuncId} {fn : Func} {c : Code}
  (hf : P.funcs[f]? = some fn) (hb : fn.body = some c) (hname : (fn.name == "runtime.NumGoroutine") = false) (w : ∀ x y,g x = some y→∃ kp fl n,Zt tt T G kp fl n fn (enc x) = some (R x y)) : ZK P G f (ZL enc fun x=>(g x).map (R x)) :=
 Zgl hm htt hT hf hb hname fun ps r ho hF=>by
  obtain ⟨x,rfl,h⟩:=ZaV hF;obtain ⟨y,hy,rfl⟩:=Option.map_eq_some_iff.1 h;exact w x y hy
@[simp] theorem ba_beq (a b : ByteArray) : (a == b) = true↔a = b:=by
 obtain ⟨a⟩:=a;obtain ⟨b⟩:=b;have : ((⟨a⟩ : ByteArray) == ⟨b⟩) = (a == b):=rfl;rw [this];simp
theorem ZqB {α : Type} {l : List α} {n i : Nat} {x : α} (h : (l.take n)[i]? = some x) : l[i]? = some x:=by
 rw [List.getElem?_take] at h;split at h
 ·exact h
 ·cases h
@[simp] theorem ZuK {k : IntKind} {l : List Int} : Zl k l.tail = (Zl k l).tail:=by simp [Zl]
theorem pq : (∀ {id : Nat} {Q : AE→ASt→Prop} {s : ASt} {i : Nat},ZhQ id Q (.exit i) s = if i = id then Q .normal s else Q (.exit i) s)∧(∀ {id : Nat} {Q : AE→ASt→Prop} {s : ASt},ZhQ id Q .normal s = Q .normal s)∧(∀ {id : Nat} {Q : AE→ASt→Prop} {s : ASt},ZhQ id Q .ret s = Q .ret s) ∧
  (∀ {K : ASt→Prop} {Q : AE→ASt→Prop} {s : ASt},Zfy K Q .normal s = K s)∧(∀ {K : ASt→Prop} {Q : AE→ASt→Prop} {s : ASt} {i : Nat},Zfy K Q (.exit i) s = Q (.exit i) s)∧(∀ {K : ASt→Prop} {Q : AE→ASt→Prop} {s : ASt},Zfy K Q .ret s = Q .ret s) ∧
  (∀ {σ ρ : Type} {kq : Kp} {H : σ→ASt} {Q : AE→ASt→Prop} {r : ρ} {s : σ},QL kq H Q r (.inl s) = Zfy (fun st=>Zci kq st = H s) fun _ _=>False)∧(∀ {σ ρ : Type} {kq : Kp} {H : σ→ASt} {Q : AE→ASt→Prop} {r r' : ρ},QL kq H Q r (.inr r') = Zfy (fun _=>False) fun e st=>r' = r→Q e st) ∧
  (∀ {a b : Prop},(if True then a else b) = a)∧(∀ {a b : Prop},(if False then a else b) = b) :=
 ⟨rfl,rfl,rfl,rfl,rfl,rfl,rfl,rfl,by simp,by simp⟩
theorem nf : (∀ {k : IntKind},Zl k [] = [])∧(∀ {k : IntKind} {x : Int} {l : List Int},Zl k (x :: l) = [.v (.int k x)] :: Zl k l)∧(∀ {k : IntKind} {l m : List Int},Zl k (l++m) = Zl k l++Zl k m)∧(∀ {k : IntKind} {l : List Int} {n : Nat},Zl k (l.take n) = (Zl k l).take n) ∧
  (∀ {k : IntKind} {l : List Int} {n : Nat},Zl k (l.drop n) = (Zl k l).drop n)∧(∀ {k : IntKind} {l : List Int} {n : Nat} {x : Int},Zl k (l.set n x) = (Zl k l).set n [.v (.int k x)])∧(∀ {k : IntKind} {n : Nat} {x : Int},Zl k (List.replicate n x) = List.replicate n [.v (.int k x)]) ∧
  (∀ {α β : Type} {f : α→β},List.map f [] = [])∧(∀ {α β : Type} {f : α→β} {a : α} {l : List α},List.map f (a :: l) = f a :: List.map f l)∧(∀ {α β : Type} {f : α→β} {l m : List α},List.map f (l++m) = List.map f l++List.map f m)∧(∀ {α β : Type} {f : α→β} {l : List α} {n : Nat},List.map f (l.take n) = (List.map f l).take n) ∧
  (∀ {α β : Type} {f : α→β} {l : List α} {n : Nat},List.map f (l.drop n) = (List.map f l).drop n)∧(∀ {α β : Type} {f : α→β} {l : List α} {n : Nat} {x : α},List.map f (l.set n x) = (List.map f l).set n (f x))∧(∀ {α β : Type} {f : α→β} {n : Nat} {x : α},List.map f (List.replicate n x) = List.replicate n (f x)) ∧
  (∀ {α : Type} {l : List α},[]++l = l)∧(∀ {α : Type} {x : α} {l m : List α},x :: l++m = x :: (l++m))∧(∀ {α : Type} {l m n : List α},l++m++n = l++(m++n)) :=
 ⟨ZlI,ZkI,Zpe,ZcA,Zeo,Zqz,Zpf,List.map_nil,List.map_cons,List.map_append,List.map_take,List.map_drop,List.map_set,List.map_replicate,List.nil_append _,List.cons_append,List.append_assoc _ _ _⟩
theorem bs {α β : Type} {o : Option α} {f : α→Option β} {y : β} (h : o.bind f = some y) : ∃ x,o = some x∧f x = some y:=Option.bind_eq_some_iff.1 h
theorem ms {α β : Type} {o : Option α} {f : α→β} {y : β} (h : o.map f = some y) : ∃ x,o = some x∧f x = y:=Option.map_eq_some_iff.1 h
theorem Zpj {P : Program} {G : Glob} {f : FuncId} {k : IntKind} {p q : Nat→Nat→Nat→Nat} {ok : Nat→Nat→Nat→Prop} {F : List PV→Option (PV×List (List Cell))}
  (hF : ∀ ps r,F ps = some r→∃ x y b : Nat,ok x y b∧ps = [.one (.v (.int k x)),.one (.v (.int k y)),.one (.v (.int k b))]∧r = (.tup [.one (.v (.int k (p x y b))),.one (.v (.int k (q x y b)))],[]))
  (h : ∀ (x y b : Nat) (w : World),ok x y b→(callFunc f #[.int k x,.int k y,.int k b]).run P w = .ok (.value (.tuple #[.int k (p x y b : Nat),.int k (q x y b : Nat)])) w) : Zoa P G f F:=by
 intro S w ks hh ps vs r outs hg hs ha hk hFr;obtain ⟨x,y,b,hx,rfl,hr⟩:=hF ps _ hFr;injection hr with hr1 hr2;subst hr1 hr2;cases ha with
 | one a1 ha=>cases ha with
  | one a2 ha=>cases ha with
   | one a3 ha =>
    cases ha
    cases a1 with
    | pure a1=>cases a2 with
     | pure a2=>cases a3 with
      | pure a3 =>
       cases a1 with
       | v _ _ _=>cases a2 with
        | v _ _ _=>cases a3 with
         | v _ _ _ =>
          exact ⟨_,S,_,_,h x y b w hx,.tup (.cons (.one (.pure (.v _ (by rfl) (by simp)))) (.cons (.one (.pure (.v _ (by rfl) (by simp)))) .nil)),.skip (by simp) (by simp) (.skip (by simp) (by simp) (.skip (by simp) (by simp) .nil)),by simp [ZO],Xq.refl _ _ _,fun _ _ h=>h,fun _ _ h=>.inl h,hs⟩
@[simp] theorem Zt0 {L : List (List Cell)} : Ym L.flatten = Z0 L:=List.all_flatten
@[simp] theorem ZtG {L : List (List Cell)} : hasSlL L.flatten = L.any hasSlL:=List.any_flatten
@[simp] theorem ZtH {k : IntKind} {l : List Int} : (Zl k l).any hasSlL = false:=by simp [Zl,hasSlL,Cell.hasSl,List.any_map]
def clr {α : Type} (l : List α) (i n : Nat) (z : α) : List α:=l.take i++(List.replicate (min n (l.length - i)) z++l.drop (i + n))
@[simp] theorem Zt1 {α : Type} {l : List α} {i n : Nat} {z : α} : (clr l i n z).length = l.length:=by simp [clr]; omega
@[simp] theorem ZqC {α : Type} {l : List α} {i n : Nat} {z : α} : (clr l i n z).take i = l.take i:=by
 unfold clr;rcases Nat.le_total i l.length with h | h
 ·rw [List.take_append_of_le_length (by simp [h]),List.take_take,Nat.min_self]
 ·rw [List.take_of_length_le h,show min n (l.length - i) = 0 by omega,List.drop_of_length_le (by omega)]
  simp [List.take_of_length_le h]
@[simp] theorem Zsi {k : IntKind} {l : List Int} {i n : Nat} {z : Int} : List.take i (Zl k (clr l i n z)) = List.take i (Zl k l):=by
 rw [← ZcA,ZqC,ZcA]
end Go.Av
end
section
namespace Go.Lc
open Go.RowKit
open Go.Av
set_option maxRecDepth 100000
set_option linter.unusedSimpArgs false
set_option linter.unusedVariables false
end Go.Lc
end
section
namespace Go.Lc
open Go.RowKit
open Go.Av
set_option maxRecDepth 100000
set_option linter.unusedSimpArgs false
set_option linter.unusedVariables false
end Go.Lc
end
