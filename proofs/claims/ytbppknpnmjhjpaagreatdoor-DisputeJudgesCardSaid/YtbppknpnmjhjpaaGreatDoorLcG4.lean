import Derived.Test.YtbppknpnmjhjpaaGreatDoorLcG3
import Derived.Test.YtbppknpnmjhjpaaGreatDoorLcG1
import Derived.IntWalk
import Derived.KernelRfl
import Derived.Test.YtbppknpnmjhjpaaGreatDoorAvP3
import Derived.Test.YtbppknpnmjhjpaaGreatDoorLcG2
namespace Go.Av
open Go.RowKit
open Go.Av
set_option linter.unusedVariables false
set_option linter.unusedSimpArgs false
class Fc (p:Prop) (q:outParam Prop):Prop where
 h:p→q
instance {p:Prop}[Decidable p]{u:Unit}:Fc (chk p=some u) p:=⟨Zy⟩
instance {n:Nat}{i:Int}{j:Nat}:Fc (inA n i=some j) (0≤i∧i.toNat=j∧j<n):=⟨YD⟩
instance {α:Type}{l:List α}{i:Nat}{x:α}:Fc (l[i]? = some x) (l[i]? = some x∧∀ h':i<l.length,l[i]=x):=⟨fun h=>⟨h,Z8 h⟩⟩
abbrev Con.Q {α β:Type}(K:Con α β) (x:α) (y:β):Prop:=K.G (K.E x)=some (K.R x y)
section
variable {α β γ:Type}{P:Prop}{r:Option β}{y:β}
theorem ZlH {o:Option α}{f:α→Option β}{q:α→Prop}[i:∀ x,Fc (o=some x) (q x)] (k:∀ x,o=some x→q x→Imp (f x=some y) P):Imp (o.bind f=some y) P:=fun h =>
 let ⟨x,h1,h2⟩:=bs h
 k x h1 ((i x).h h1) h2
theorem Zkl {o:Option α}{f:α→Option β}{x:α}(e:o=some x) (k:Imp (f x=some y) P):Imp (o.bind f=some y) P:=fun h=>k (by rw[e] at h; exact h)
theorem ZmZ {p:Prop}[Decidable p]{f:Unit→Option β}(k:p→Imp (f ()=some y) P):Imp ((chk p).bind f=some y) P:=fun h =>
 let ⟨_,h1,h2⟩:=bs h
 k (Zy h1) h2
theorem Zmb {l:List α}{i:Int}{f:α→Option β}(k:∀ x,0≤i→l[i.toNat]? = some x→(∀ h':i.toNat<l.length,l[i.toNat]=x)→Imp (f x=some y) P):Imp ((idx l i).bind f=some y) P:=fun h =>
 let ⟨x,h1,h2⟩:=bs h
 k x (ZbT h1).1 (ZbT h1).2 (Z8 (ZbT h1).2) h2
theorem ZlI {l:List α}{i:Int}{f:α→Option β}{x:α}(e:l[i.toNat]? = some x) (k:Imp (f x=some y) P):Imp ((idx l i).bind f=some y) P:=Zmb fun z _ h _=>by
 obtain rfl:=Option.some.inj (e.symm.trans h);exact k
theorem ZlJ {a:α}{f:α→Option β}(k:Imp (f a=r) P):Imp ((some a).bind f=r) P:=k
theorem im_none:Imp ((none:Option β)=some y) P:=fun h=>by cases h
theorem Zkm {f:α→Option β}:Imp ((none:Option α).bind f=some y) P:=fun h=>by cases h
theorem ZfN {c:Prop}[Decidable c]{a b:Option β}(hc:c) (k:Imp (a=r) P):Imp ((if c then a else b)=r) P:=fun h=>k (by rwa[if_pos hc] at h)
theorem Zmc {c:Prop}[Decidable c]{a b:Option β}(hc:¬ c) (k:Imp (b=r) P):Imp ((if c then a else b)=r) P:=fun h=>k (by rwa[if_neg hc] at h)
theorem ZdK {c:Prop}[Decidable c]{a b:Option α}{f:α→Option β}(hc:c) (k:Imp (a.bind f=r) P):Imp ((if c then a else b).bind f=r) P:=fun h=>k (by rwa[if_pos hc] at h)
theorem Zkn {c:Prop}[Decidable c]{a b:Option α}{f:α→Option β}(hc:¬ c) (k:Imp (b.bind f=r) P):Imp ((if c then a else b).bind f=r) P:=fun h=>k (by rwa[if_neg hc] at h)
theorem ZoQ {c:Prop}[Decidable c]{a b:Option β}(k:c→Imp (a=r) P) (l:¬ c→Imp (b=r) P):Imp ((if c then a else b)=r) P:=if h:c then ZfN h (k h) else Zmc h (l h)
theorem Zm0 {c:Prop}[Decidable c]{a b:Option α}{f:α→Option β}(k:c→Imp (a.bind f=r) P) (l:¬ c→Imp (b.bind f=r) P):Imp ((if c then a else b).bind f=r) P:=if h:c then ZdK h (k h) else Zkn h (l h)
theorem ZlK {c d:Prop}[Decidable c] [Decidable d]{i:Decidable (c∨d)}{a b:Option β}(k:Imp ((if c then a else if d then a else b)=r) P):Imp ((@ite _ (c∨d) i a b)=r) P:=fun h=>k (by
 rw[← h]; by_cases hc:c <;> by_cases hd:d <;> simp[hc,hd])
theorem Zko {c d:Prop}[Decidable c] [Decidable d]{i:Decidable (c∧d)}{a b:Option β}(k:Imp ((if c then if d then a else b else b)=r) P):Imp ((@ite _ (c∧d) i a b)=r) P:=fun h=>k (by
 rw[← h]; by_cases hc:c <;> by_cases hd:d <;> simp[hc,hd])
theorem Zkp {c:Prop}[Decidable c]{i:Decidable (¬ c)}{a b:Option β}(k:Imp ((if c then b else a)=r) P):Imp ((@ite _ (¬ c) i a b)=r) P:=fun h=>k (by
 rw[← h]; by_cases hc:c <;> simp[hc])
theorem Zjq {o:Option γ}{g:γ→Option α}{f:α→Option β}(k:Imp ((o.bind fun x=>(g x).bind f)=r) P):Imp ((o.bind g).bind f=r) P:=fun h=>k (by rw[← h]; cases o <;> rfl)
end
theorem Zm1 {β γ:Type}{o:Option β}{g:β→γ}{y:γ}{P:Prop}(k:∀ z,y=g z→Imp (o=some z) P):Imp (o.map g=some y) P:=fun h=>by
 obtain⟨z,h1,h2⟩:=Option.map_eq_some_iff.1 h;exact k z h2.symm h1
theorem Zm2 {β:Type}{a y:β}{P:Prop}(k:a=y→P):Imp (some a=some y) P:=fun h=>k (Option.some.inj h)
theorem ZlL {P:Prop}(k:Imp True P):P:=k trivial
theorem ZoR {β:Type}{z r:β}{A P:Prop}(k:r=z→Imp A P):Imp A (z=r→P):=fun a e=>k e.symm a
theorem leT {a b:Nat}(h:a≤b):(a≤b)=True:=eq_true h
theorem ltT {a b:Nat}(h:a<b):(a<b)=True:=eq_true h
theorem Zlf {a b:Int}(h:a≤b):(a≤b)=True:=eq_true h
theorem Zlg {a b:Int}(h:a<b):(a<b)=True:=eq_true h
theorem leF {a b:Nat}(h:b<a):(a≤b)=False:=eq_false (by omega)
theorem ltF {a b:Nat}(h:b≤a):(a<b)=False:=eq_false (by omega)
theorem Zlh {a b:Int}(h:b<a):(a≤b)=False:=eq_false (by omega)
theorem Zli {a b:Int}(h:b≤a):(a<b)=False:=eq_false (by omega)
@[simp] theorem Zz9 (a:Nat):(1+a≤a+1)=True:=eq_true (by omega)
@[simp] theorem tk_map {α:Type}{f:α→List Cell}{c:List Cell}{l:List α}:List.take (1+l.length) (c :: List.map f l)=c :: List.map f l:=List.take_of_length_le (by simp; omega)
@[simp] theorem ZB0 {α:Type}{f:α→List Cell}{c:List Cell}{l:List α}{m:Nat}:List.take (1+(l.length-m)) (c :: List.drop m (List.map f l))=c :: List.drop m (List.map f l):=List.take_of_length_le (by simp; omega)
@[simp] theorem ZB1 {k:IntKind}{c:List Cell}{l:List Int}{m:Nat}:List.take (1+(l.length-m)) (c :: List.drop m (Zf k l))=c :: List.drop m (Zf k l):=List.take_of_length_le (by simp; omega)
section
variable {bx:Boxes}{k:IntKind}{cs:List Cell}
theorem ZuK {l:List Int}{es:List Nat}(h:(es.take l.length).all (· == 0)=true):Zbc bx es (ints k l++cs)=(Zbc bx (es.drop l.length) cs).map (ints k l++·):=by
 induction l generalizing es with
 | nil=>simp[ints]
 | cons x l ih =>
  cases es with
  | nil =>
   have:=ih (es:=[]) (by simp);simp only[List.drop_nil] at this ⊢;show(match ZeC bx 0 (.v (.int k x)),Zbc bx [] (ints k l++cs) with | some d,some ds=>some (d :: ds) | _,_=>none)=_
   rw[this];generalize Zbc bx [] cs=z;cases z <;> simp[ZeC,Z9,ints]
  | cons e es =>
   simp only[List.length_cons,List.take_succ_cons,List.all_cons,Bool.and_eq_true,beq_iff_eq] at h;obtain⟨rfl,h⟩:=h;have:=ih h;show(match ZeC bx 0 (.v (.int k x)),Zbc bx es (ints k l++cs) with | some d,some ds=>some (d :: ds) | _,_=>none)=_
   rw[this];simp only[List.length_cons,List.drop_succ_cons];cases Zbc bx (es.drop l.length) cs <;> simp[ZeC,Z9,ints]
theorem ZuL {l:List Int}{es:List Nat}:lentL es (ints k l++cs)=lentL (es.drop l.length) cs:=by
 induction l generalizing es with
 | nil=>simp[ints]
 | cons x l ih =>
  cases es with
  | nil =>
   have:=ih (es:=[]);simp only[List.drop_nil] at this ⊢;show nmC (.v (.int k x))++lentL [] (ints k l++cs)=_
   rw[this]; rfl
  | cons e es =>
   show Zfg e (.v (.int k x))++lentL es (ints k l++cs)=_
   rw[ih];simp[Zfg,nmC]
theorem Zxi {l:List Int}{es:List Nat}:hdL es (ints k l++cs)=hdL (es.drop l.length) cs:=by
 induction l generalizing es with
 | nil=>simp[ints]
 | cons x l ih =>
  cases es with
  | nil =>
   have:=ih (es:=[]);simp only[List.drop_nil] at this ⊢;show hdL [] (ints k l++cs)=_
   rw[this]
  | cons e es =>
   show hdC e (.v (.int k x))++hdL es (ints k l++cs)=_
   rw[ih];simp[hdC,nmC]
variable {n:Nat}{a:Arr n}{es:List Nat}
@[simp] theorem ZAY (h:(es.take n).all (· == 0)=true):Zbc bx es (arC k a++cs)=(Zbc bx (es.drop n) cs).map (arC k a++·):=by
 have:=ZuK (bx:=bx) (k:=k) (cs:=cs) (l:=a.l) (es:=es) (by rwa[a.hl])
 rwa[a.hl] at this
@[simp] theorem lentL_arC:lentL es (arC k a++cs)=lentL (es.drop n) cs:=by
 have:=ZuL (k:=k) (cs:=cs) (l:=a.l) (es:=es)
 rwa[a.hl] at this
@[simp] theorem hdL_arC:hdL es (arC k a++cs)=hdL (es.drop n) cs:=by
 have:=Zxi (k:=k) (cs:=cs) (l:=a.l) (es:=es)
 rwa[a.hl] at this
end
theorem Yi {α β:Type}{f:α→β}{l:List α}{n:Nat}:List.take (l.length-n) (List.drop n (List.map f l))=List.drop n (List.map f l):=List.take_of_length_le (by simp)
theorem eqI {a b:Int}(h:a=b):a≤b∧b≤a:=⟨Int.le_of_eq h,Int.le_of_eq h.symm⟩
theorem Zg8 {X R:Prop}(e:Zbt X R) (x:X):R:=e.h ▸ x
section
variable {tt:TT}{T:Tab}{G:Glob}{kp:Keep}{st st1:ASt}{c:Code}{Q:AE→ASt→Prop}{σ ρ:Type}
theorem ZlM {A P:Prop}(v:Bool) (k:v=true→Imp A P) (l:v=false→Imp A P):Imp A P:=by cases v <;> simp_all
theorem ZaD {step:σ→Option (σ ⊕ ρ)}{s:σ}{r:ρ}(k:Imp (Zd step s=some r) (ZF tt T G kp (.loop c) st Q)):Imp (Zd step s=some r) (ZF tt T G kp (.loop c) st Q):=k
def ZjU (l:List (Nat×PV)) (e:List PV):List PV:=l.foldl (fun e p=>e.set p.1 p.2) e
def updB:List (Nat×Box)→Boxes→Boxes
 | [],b=>b
 | (n,x) :: l,b=>updB l (setB b n x)
def upd (p:List (Nat×PV)×List (Nat×Box)) (s:ASt):ASt:=⟨ZjU p.1 s.env,updB p.2 s.boxes⟩
theorem lpP {step:σ→Option (σ ⊕ ρ)}{s:σ}{r:ρ}(n:Nat) (A:σ→List (Nat×PV)×List (Nat×Box))
  (k:∀ s x,Imp (step s=some x) (ZF tt T G kp c (upd (A s) st1) (QL (kp n) (fun s=>upd (A s) st1) Q r x)))
  (h1:Zcq (kp n) st=st1:=by first | (simp[-Int.ofNat_toNat,-Int.natCast_tdiv_eq_ediv,und,List.replicate, *] <;> rfl) | fail) (h2:st1=upd (A s) st1:=by simp[-Int.ofNat_toNat,-Int.natCast_tdiv_eq_ediv,upd,ZjU,updB, *]) (hn:firstId c=n:=by kernel_rfl):Imp (Zd step s=some r) (ZF tt T G kp (.loop c) st Q):=fun hr =>
 Xs (by rw[hn]) hr (h1.trans h2) fun s x hx=>k s x hx
end
end Go.Av
namespace Go.Lc
open Go.RowKit
open Go.Av
set_option linter.unusedVariables false
set_option linter.unusedSimpArgs false
theorem ZT {σ ρ:Type}{step:σ→Option (σ ⊕ ρ)}{s s':σ}(h:step s=some (.inl s')):Zd step s=Zd step s' := by rw[Zny,h]
theorem Xb {σ ρ:Type}{step:σ→Option (σ ⊕ ρ)}{s:σ}{x:Option ρ}(h:step s=x.map .inr):Zd step s=x:=by
 rw[Zny,h];cases x <;> rfl
theorem Xv {σ ρ:Type}{step:σ→Option (σ ⊕ ρ)}{s:σ}{r:ρ}(h:step s=some (.inr r)):Zd step s=some r:=by rw[Zny,h]
theorem ZQ {σ ρ:Type}{step:σ→Option (σ ⊕ ρ)}(enc:Nat→σ) (n:Nat){x:Option ρ}(h:∀ i,i<n→step (enc i)=some (.inl (enc (i+1)))) (he:step (enc n)=x.map .inr):Zd step (enc 0)=x:=by
 have key:∀ k,k≤n→Zd step (enc (n-k))=x:=by
  intro k;induction k with
  | zero=>intro _; exact Xb he
  | succ k ih =>
   intro hk;rw[ZT (h (n-(k+1)) (by omega)),show n-(k+1)+1=n-k by omega];exact ih (by omega)
 have:=key n (Nat.le_refl _)
 rwa[Nat.sub_self] at this
theorem Xe {σ ρ:Type}{step:σ→Option (σ ⊕ ρ)}(I:Nat→σ→Prop) (Q:ρ→Prop) (h:∀ i s,I i s→(∃ j s',j<i∧step s=some (.inl s')∧I j s')∨∃ r,step s=some (.inr r)∧Q r):∀ (n:Nat) (s:σ),I n s→∃ r,Zd step s=some r∧Q r:=by
 intro n;induction n using Nat.strongRecOn with
 | _ n ih =>
  intro s hs;rcases h n s hs with ⟨j,s',hj,h1,h2⟩ | ⟨r,h1,h2⟩
  ·obtain⟨r,h3,h4⟩:=ih j hj s' h2
   exact⟨r,(ZT h1).trans h3,h4⟩
  ·exact⟨r,Xv h1,h2⟩
def Tot {α:Type}(x:Option α) (Q:α→Prop):Prop:=∃ a,x=some a∧Q a
section
variable {α β:Type}{x:Option α}{f:α→Option β}{P:α→Prop}{Q:β→Prop}
theorem Tot.bind (h:Tot x P) (k:∀ a,P a→Tot (f a) Q):Tot (x.bind f) Q:=by
 obtain⟨a,rfl,ha⟩:=h;exact k a ha
theorem Tot.mono {P':α→Prop}(h:Tot x P) (k:∀ a,P a→P' a):Tot x P' := by
 obtain⟨a,h1,ha⟩:=h;exact⟨a,h1,k a ha⟩
theorem Zb {a:α}(h:P a):Tot (some a) P:=⟨a,rfl,h⟩
theorem Zh {c:Prop}[Decidable c]{a b:Option α}(h1:c→Tot a P) (h2:¬ c→Tot b P):Tot (if c then a else b) P:=by
 by_cases h:c
 ·rw[if_pos h]; exact h1 h
 ·rw[if_neg h]; exact h2 h
theorem Tot.inr {ρ σ:Type}{x:Option ρ}{Q:ρ→Prop}(h:Tot x Q):∃ r,(x.map Sum.inr:Option (σ ⊕ ρ))=some (.inr r)∧Q r:=by
 obtain⟨a,rfl,ha⟩:=h;exact⟨a,rfl,ha⟩
end
theorem Za {α β:Type}(a:α) (f:α→Option β):(some a).bind f=f a:=rfl
theorem Zj {p:Prop}[Decidable p]{α:Type}{f:Unit→Option α}(h:p):(chk p).bind f=f ():=by rw[Zyo h]; rfl
theorem Zyq {α:Type}{l:List α}{i:Nat}(h:i<l.length):idx l (i:Int)=some l[i]:=by simp[idx,h]
theorem Zi {α β:Type}{l:List α}{i:Nat}{f:α→Option β}(h:i<l.length):(idx l (i:Int)).bind f=f l[i]:=by rw[Zyq h]; rfl
theorem Zyr {n i:Nat}(h:i<n):inA n (i:Int)=some i:=by simp[inA,h]
theorem YE {β:Type}{n i:Nat}{f:Nat→Option β}(h:i<n):(inA n (i:Int)).bind f=f i:=by rw[Zyr h]; rfl
theorem ZhF {α β:Type}{l:List α}{i:Nat}{f:α→Option β}(h:i<l.length):(l[i]?).bind f=f l[i]:=by rw[List.getElem?_eq_getElem h]; rfl
theorem wi (n:Int) (h:-9223372036854775808≤n∧n≤9223372036854775807):IntKind.i64.wrap n=n:=IntWalk.i64_in n h
theorem Zp {i n:Nat}(h:i<n) (hn:n≤9223372036854775807):IntKind.i64.wrap ((i:Int)+1)=((i+1:Nat):Int):=by rw[wi _ (by omega)]; omega
theorem wu (n:Int) (h:0≤n∧n≤18446744073709551615):IntKind.u64.wrap n=n:=IntWalk.u64_in n h
theorem ZqY {α:Type}(f:Nat→α) (z:α){i k:Nat}(h:i<k):(((List.range i).map f)++List.replicate (k-i) z).set i (f i)=((List.range (i+1)).map f)++List.replicate (k-(i+1)) z:=by
 rw[List.set_append_right _ _ (by simp)];simp only[List.length_map,List.length_range,Nat.sub_self];rw[show k-i=(k-(i+1))+1 by omega,List.replicate_succ,List.set_cons_zero,List.range_succ,List.map_append];simp
theorem Zsn {α:Type}(f:Nat→α) (z:α){i k:Nat}(h:i≤k):(((List.range i).map f)++List.replicate (k-i) z).length=k:=by simp; omega
class Ys (α:Type) where
 force:{β:Type}→α→(α→β)→β
 eq:∀ {β:Type}(a:α) (k:α→β),force a k=k a
noncomputable def Zp3 {β:Type}(n:Nat) (k:Nat→β):β:=Nat.rec (motive:=fun _=>β) (k Nat.zero) (fun m _=>k (Nat.succ m)) n
theorem Zoi {β:Type}(n:Nat) (k:Nat→β):Zp3 n k=k n:=by cases n <;> rfl
noncomputable instance:Ys Nat:=⟨Zp3,Zoi⟩
noncomputable def ZvO {β:Type}(i:Int) (k:Int→β):β:=Int.rec (motive:=fun _=>β) (fun n=>Zp3 n fun m=>k (Int.ofNat m)) (fun n=>Zp3 n fun m=>k (Int.negSucc m)) i
theorem ZvP {β:Type}(i:Int) (k:Int→β):ZvO i k=k i:=by
 cases i with
 | ofNat n=>exact Zoi n fun m=>k (Int.ofNat m)
 | negSucc n=>exact Zoi n fun m=>k (Int.negSucc m)
noncomputable instance:Ys Int:=⟨ZvO,ZvP⟩
noncomputable def ZvQ {β:Type}(b:Bool) (k:Bool→β):β:=Bool.rec (motive:=fun _=>β) (k false) (k true) b
theorem ZvR {β:Type}(b:Bool) (k:Bool→β):ZvQ b k=k b:=by cases b <;> rfl
noncomputable instance:Ys Bool:=⟨ZvQ,ZvR⟩
noncomputable instance:Ys Unit:=⟨fun _ k=>k (),fun _ _=>rfl⟩
noncomputable def ZvS {α γ β:Type}[Ys α] [Ys γ] (p:α×γ) (k:α×γ→β):β:=Prod.rec (motive:=fun _=>β) (fun a c=>Ys.force a fun a=>Ys.force c fun c=>k (a,c)) p
theorem ZvT {α γ β:Type}[Ys α] [Ys γ] (p:α×γ) (k:α×γ→β):ZvS p k=k p:=by
 obtain⟨a,c⟩:=p;exact(Ys.eq a _).trans (Ys.eq c _)
noncomputable instance {α γ:Type}[Ys α] [Ys γ]:Ys (α×γ):=⟨ZvS,ZvT⟩
noncomputable def Zso {α β:Type}[Ys α] (l:List α) (k:List α→β):β:=List.rec (motive:=fun _=>(List α→β)→β) (fun k=>k []) (fun a _ ih k=>Ys.force a fun a=>ih fun l=>k (a :: l)) l k
theorem ZqZ {α β:Type}[Ys α] (l:List α) (k:List α→β):Zso l k=k l:=by
 induction l generalizing k with
 | nil=>rfl
 | cons a l ih =>
  refine(Ys.eq (β:=β) a _).trans ?_;exact ih fun l=>k (a :: l)
noncomputable instance {α:Type}[Ys α]:Ys (List α):=⟨Zso,ZqZ⟩
noncomputable def Zsp {n:Nat}{β:Type}(a:Arr n) (k:Arr n→β):β:=Zso a.l fun l=>if h:Nat.beq l.length n=true then k ⟨l,Nat.eq_of_beq_eq_true h⟩ else k a
theorem ZvU {n:Nat}{β:Type}(a:Arr n) (k:Arr n→β):Zsp a k=k a:=by
 unfold Zsp;rw[ZqZ];split <;> rfl
noncomputable instance {n:Nat}:Ys (Arr n):=⟨Zsp,ZvU⟩
noncomputable def _root_.Option.bindF {α β:Type}[Ys α] (o:Option α) (f:α→Option β):Option β:=Option.rec (motive:=fun _=>Option β) none (fun x=>Ys.force x f) o
theorem Zxj {α β:Type}[Ys α] (o:Option α) (f:α→Option β):o.bindF f=o.bind f:=by
 cases o with
 | none=>rfl
 | some x=>exact Ys.eq x f
noncomputable def Zsq {σ ρ:Type}[Ys σ] (step:σ→Option (σ ⊕ ρ)) (s:σ):Option ρ :=
 Nat.rec (motive:=fun _=>σ→Option ρ) (fun _=>none) (fun _ ih s=>Option.rec (motive:=fun _=>Option ρ) none (fun x=>Sum.rec (motive:=fun _=>Option ρ) (fun s'=>Ys.force s' ih) (fun r=>some r) x) (step s)) 1000000 s
noncomputable instance {α γ:Type}[Ys α] [Ys γ]:Ys (α ⊕ γ):=⟨fun x k=>Sum.rec (motive:=fun _=>_) (fun a=>Ys.force a fun a=>k (.inl a)) (fun c=>Ys.force c fun c=>k (.inr c)) x,fun x k=>by cases x <;> exact Ys.eq _ _⟩
noncomputable instance {α:Type}[Ys α]:Ys (Option α):=⟨fun x k=>Option.rec (motive:=fun _=>_) (k none) (fun a=>Ys.force a fun a=>k (some a)) x,fun x k=>by cases x <;> first | rfl | exact Ys.eq _ _⟩
def Le {α:Type}(o o':Option α):Prop:=∀ x,o=some x→o'=some x
theorem Le.refl {α:Type}(o:Option α):Le o o:=fun _ h=>h
theorem Xi {α β:Type}[Ys α]{o o':Option α}{f f':α→Option β}(h:Le o o') (hf:∀ x,Le (f x) (f' x)):Le (o.bindF f) (o'.bind f'):=by
 intro y hy;rw[Zxj] at hy;obtain⟨x,hx,hy⟩:=Option.bind_eq_some_iff.1 hy;rw[h _ hx];exact hf x _ hy
theorem Zan {α β:Type}{o o':Option α}{f:α→β}(h:Le o o'):Le (o.map f) (o'.map f):=by
 intro y hy;obtain⟨x,hx,rfl⟩:=Option.map_eq_some_iff.1 hy;rw[h _ hx];rfl
theorem Zao {α:Type}{p:Prop}[Decidable p]{a a' b b':Option α}(h:Le a a') (h':Le b b'):Le (if p then a else b) (if p then a' else b'):=by
 split
 ·exact h
 ·exact h'
theorem Zap {σ ρ:Type}[Ys σ]{step step':σ→Option (σ ⊕ ρ)}{s:σ}(h:∀ s,Le (step s) (step' s)):Le (Zsq step s) (Zd step' s):=by
 have key:∀ (n:Nat) (s:σ) (r:ρ),(Nat.rec (motive:=fun _=>σ→Option ρ) (fun _=>none) (fun _ ih s=>Option.rec (motive:=fun _=>Option ρ) none (fun x=>Sum.rec (motive:=fun _=>Option ρ) (fun s'=>Ys.force s' ih) (fun r=>some r) x) (step s)) n s:Option ρ)=some r→Zd step' s=some r:=by
  intro n;induction n with
  | zero=>intro s r h; cases h
  | succ n ih =>
   intro s r hr;simp only at hr;rcases hs:step s with _ | (s' | r')
   ·rw[hs] at hr; cases hr
   ·rw[hs] at hr
    have hr:=(Ys.eq s' _).symm.trans hr;rw[ZT (h s _ hs)];exact ih s' r hr
   ·rw[hs] at hr
    obtain rfl:=Option.some.inj hr;exact Xv (h s _ hs)
 intro r hr;exact key 1000000 s r hr
class Lec {α:Type}(o o':Option α):Prop where
 h:Le o o'
end Go.Lc
namespace Go.Av
open Go.RowKit
open Go.Av
set_option linter.unusedVariables false
set_option linter.unusedSimpArgs false
section
open Go.Lc
theorem ZU {P:Program}{tt:TT}{T:Tab}{G:Glob}{kp:Keep}{w:Bool}{n:Nat}(hm:P.follows .mixedOrders=true) (htt:∀ t i,tt t=some i→Z0 P t=some i) (hT:∀ f F,T f=some F→Zef P G (f % 1000000) F){f:FuncId}{fn:Func}
  (hf:P.funcs[f]? = some fn) (hb:(fn.body.isSome && !(fn.name == "runtime.NumGoroutine"))=true):ZS P G f (ZM tt T G kp w n fn):=by
 obtain⟨h1,h2⟩:=Bool.and_eq_true_iff.1 hb;obtain⟨c,hc⟩:=Option.isSome_iff_exists.1 h1;exact Zqp hm htt hT hf hc (by simpa using h2) fun ps r _ h=>⟨_,_,_,h⟩
theorem Zoj {P:Program}{G:Glob}{f:FuncId}{F F':List PV→Option (PV×List (List Cell))}(h:ZS P G f F) (hw:∀ ps r,F' ps=some r→F ps=some r):ZS P G f F' :=
 ⟨h.1,fun S w ks hh ps vs r outs a1 a2 a3 a4 hF=>h.2 S w ks hh ps vs r outs a1 a2 a3 a4 (hw _ _ hF)⟩
def ZuM (k:IntKind):PV→Option Int
 | .one (.v (.int k' i))=>if k=k' then some i else none
 | _=>none
theorem Zys {k:IntKind}{p:PV}{i:Int}(h:ZuM k p=some i):p = .one (.v (.int k i)):=by
 unfold ZuM at h;split at h
 ·split at h
  ·rename_i e; subst e; cases h; rfl
  ·cases h
 ·cases h
def d1 {α:Type}(d:PV→Option α):List PV→Option α
 | [p]=>d p
 | _=>none
def d2 {α β:Type}(d:PV→Option α) (e:PV→Option β):List PV→Option (α×β)
 | [p,q]=>match d p,e q with
  | some x,some y=>some (x,y)
  | _,_=>none
 | _=>none
theorem ZAv {α:Type}{d:PV→Option α}{ea:α→PV}(h:∀ p x,d p=some x→p=ea x){ps:List PV}{x:α}(hx:d1 d ps=some x):ps=[ea x]:=by
 unfold d1 at hx;split at hx
 ·rw[h _ _ hx]
 ·cases hx
theorem Zyt {P:Program}{G:Glob}{f:FuncId}{α β:Type}{enc:α→List PV}{g g':α→Option β}{R:α→β→PV×List (List Cell)}(hi:∀ a b,enc a=enc b→a=b) (v:ZS P G f (XS enc fun x=>(g x).map (R x))) (dec:List PV→Option α) (hd:∀ ps x,dec ps=some x→ps=enc x) (hle:∀ x,Le (g' x) (g x)):ZS P G f (fun ps=>match dec ps with | some x=>(g' x).map (R x) | none=>none):=by
 refine Zoj v fun ps r h=>?_
 split at h
 ·rename_i x hx
  obtain⟨y,hy,rfl⟩:=Option.map_eq_some_iff.1 h;rw[hd _ _ hx];exact Yw hi (hle x y hy)
 ·cases h
end
end Go.Av
namespace Go.Lc
open Go.RowKit
open Go.Av
set_option linter.unusedVariables false
set_option linter.unusedSimpArgs false
section
set_option maxRecDepth 100000
noncomputable def ZhG (a0:(List Tapi_Claim)):Option Bool :=
 some (decide ((a0.length:Int)≤64))
theorem Zm3 (a0:(List Tapi_Claim)):Le (ZhG a0) (Za7 a0):=by
 unfold ZhG Za7;try dsimp only
 repeat' (first | (with_reducible exact Le.refl _) | (with_reducible refine Zap fun _=>?_) | (with_reducible refine Xi ?_ fun _=>?_) | (with_reducible refine Zao ?_ ?_) | (with_reducible refine Zan ?_))
noncomputable def ZhH (a0:(List Tapi_Claim)):(Int×Int)→Option ((Int×Int) ⊕ (Bool))
 | (p5,p6)=>(if p6<(a0.length:Int) then(idx (a0) (p6)).bindF fun x8=>(if x8.1≤p5 then some (.inr (false)) else some (.inl (x8.1,IntKind.i64.wrap (p6+1)))) else(ZhG a0).map Sum.inr)
theorem Zm4 (a0:(List Tapi_Claim)) (s):Le (ZhH a0 s) (Xh a0 s):=by
 obtain⟨p5,p6⟩:=s;unfold ZhH Xh;try dsimp only
 repeat' (first | (with_reducible exact Le.refl _) | (with_reducible apply Zm3) | (with_reducible refine Zap fun _=>?_) | (with_reducible refine Xi ?_ fun _=>?_) | (with_reducible refine Zao ?_ ?_) | (with_reducible refine Zan ?_))
noncomputable def ZeW (a0:(List Tapi_Claim)):Option (Bool) :=
 Zsq (ZhH a0) ((-1),0)
theorem ZhI (a0:(List Tapi_Claim)):Le (ZeW a0) (Xd a0):=by
 unfold ZeW Xd;try dsimp only
 repeat' (first | (with_reducible exact Le.refl _) | (with_reducible apply Zm4) | (with_reducible refine Zap fun _=>?_) | (with_reducible refine Xi ?_ fun _=>?_) | (with_reducible refine Zao ?_ ?_) | (with_reducible refine Zan ?_))
noncomputable def Zge (a0:Int) (a1:Int):Option (Bool) :=
 some (((decide (0≤a0) && decide (a0<a1)) && decide (a1≤16777216)))
theorem Zj2 (a0:Int) (a1:Int):Le (Zge a0 a1) (Xo a0 a1):=by
 unfold Zge Xo;try dsimp only
 repeat' (first | (with_reducible exact Le.refl _) | (with_reducible refine Zap fun _=>?_) | (with_reducible refine Xi ?_ fun _=>?_) | (with_reducible refine Zao ?_ ?_) | (with_reducible refine Zan ?_))
noncomputable def XU (a0:(List Tapi_Claim)):Option (List Tapi_Claim) :=
 (chk (a0.length≤3518437208883)).bindF fun _=>some (a0)
theorem Zgf (a0:(List Tapi_Claim)):Le (XU a0) (XT a0):=by
 unfold XU XT;try dsimp only
 repeat' (first | (with_reducible exact Le.refl _) | (with_reducible refine Zap fun _=>?_) | (with_reducible refine Xi ?_ fun _=>?_) | (with_reducible refine Zao ?_ ?_) | (with_reducible refine Zan ?_))
noncomputable def Zkq (a0:Int) (a1:(Arr 32)) (a2:Int) (a3:(List Tapi_Claim)):Option (Tapi_Dispute×Int) :=
 ((if (a3.length:Int)=0 then some (false) else(ZeW a3).bindF fun y1=>some (!(y1)))).bindF fun z2=>(if ((a3.length:Int)=0∨z2=true) then some (((0,0,zA 32,([]:(List Tapi_Claim))),6)) else(Zge a0 a2).bindF fun y3=>(if ¬ (y3=true) then some (((0,0,zA 32,([]:(List Tapi_Claim))),5)) else(XU a3).bindF fun y4=>some (((a0,a2,a1,y4),0))))
theorem Zo2 (a0:Int) (a1:(Arr 32)) (a2:Int) (a3:(List Tapi_Claim)):Le (Zkq a0 a1 a2 a3) (Zkj a0 a1 a2 a3):=by
 unfold Zkq Zkj;try dsimp only
 repeat' (first | (with_reducible exact Le.refl _) | (with_reducible apply ZhI) | (with_reducible apply Zj2) | (with_reducible apply Zgf) | (with_reducible refine Zap fun _=>?_) | (with_reducible refine Xi ?_ fun _=>?_) | (with_reducible refine Zao ?_ ?_) | (with_reducible refine Zan ?_))
noncomputable def ZfO (a0:Tapi_Dispute):Option (Bool) :=
 (Zge a0.1 a0.2.1).bindF fun y1=>((if (y1=true∧0<(a0.2.2.2.length:Int)) then(ZeW a0.2.2.2).bindF fun y2=>some (y2) else some (false))).bindF fun z3=>some (((y1 && decide (0<(a0.2.2.2.length:Int))) && z3))
theorem Ziu (a0:Tapi_Dispute):Le (ZfO a0) (Yu a0):=by
 unfold ZfO Yu;try dsimp only
 repeat' (first | (with_reducible exact Le.refl _) | (with_reducible apply Zj2) | (with_reducible apply ZhI) | (with_reducible refine Zap fun _=>?_) | (with_reducible refine Xi ?_ fun _=>?_) | (with_reducible refine Zao ?_ ?_) | (with_reducible refine Zan ?_))
noncomputable def ZhJ (a0:Tapi_Dispute):Option (Int×Bool) :=
 (ZfO a0).bindF fun y1=>(if ¬ (y1=true) then some ((0,false)) else(if 1<IntKind.i64.wrap (a0.2.1-a0.1) then some ((IntKind.i64.wrap (a0.1+(IntKind.i64.wrap ((IntKind.i64.wrap (a0.2.1-a0.1)).tdiv 2))),false)) else some ((a0.2.1,true))))
theorem Zmu (a0:Tapi_Dispute):Le (ZhJ a0) (Zhz a0):=by
 unfold ZhJ Zhz;try dsimp only
 repeat' (first | (with_reducible exact Le.refl _) | (with_reducible apply Ziu) | (with_reducible refine Zap fun _=>?_) | (with_reducible refine Xi ?_ fun _=>?_) | (with_reducible refine Zao ?_ ?_) | (with_reducible refine Zan ?_))
noncomputable def Fdispute_agree_k1:Option Bool :=
 some (true)
theorem Fdispute_agree_k1_le:Le (Fdispute_agree_k1) (Ldispute_agree_k1):=by
 unfold Fdispute_agree_k1 Ldispute_agree_k1;try dsimp only
 repeat' (first | (with_reducible exact Le.refl _) | (with_reducible refine Zap fun _=>?_) | (with_reducible refine Xi ?_ fun _=>?_) | (with_reducible refine Zao ?_ ?_) | (with_reducible refine Zan ?_))
noncomputable def Ziv (a0:(List Tapi_Claim)):Int→Option ((Int) ⊕ (Bool))
 | p5=>(if p5<(a0.length:Int) then(idx (a0) (p5)).bindF fun x8=>((a0)[0]?).bindF fun x9=>(if ¬ (x8.2=x9.2) then some (.inr (false)) else some (.inl (IntKind.i64.wrap (p5+1)))) else(Fdispute_agree_k1).map Sum.inr)
theorem ZnE (a0:(List Tapi_Claim)) (s):Le (Ziv a0 s) (Zit a0 s):=by
 unfold Ziv Zit;try dsimp only
 repeat' (first | (with_reducible exact Le.refl _) | (with_reducible apply Fdispute_agree_k1_le) | (with_reducible refine Zap fun _=>?_) | (with_reducible refine Xi ?_ fun _=>?_) | (with_reducible refine Zao ?_ ?_) | (with_reducible refine Zan ?_))
noncomputable def Zih (a0:(List Tapi_Claim)):Option (Bool) :=
 Zsq (Ziv a0) 0
theorem Zlq (a0:(List Tapi_Claim)):Le (Zih a0) (Zib a0):=by
 unfold Zih Zib;try dsimp only
 repeat' (first | (with_reducible exact Le.refl _) | (with_reducible apply ZnE) | (with_reducible refine Zap fun _=>?_) | (with_reducible refine Xi ?_ fun _=>?_) | (with_reducible refine Zao ?_ ?_) | (with_reducible refine Zan ?_))
noncomputable def ZeX (p47:(List Int)) (p69:Int) (p70:Int) (p71:(Arr 32)) (p72:(List Tapi_Claim)):Option (Tapi_Dispute×(List Int)×Int) :=
 some (((p69,p70,p71,p72),p47,0))
theorem Zm5 (p47:(List Int)) (p69:Int) (p70:Int) (p71:(Arr 32)) (p72:(List Tapi_Claim)):Le (ZeX p47 p69 p70 p71 p72) (ZeR p47 p69 p70 p71 p72):=by
 unfold ZeX ZeR;try dsimp only
 repeat' (first | (with_reducible exact Le.refl _) | (with_reducible refine Zap fun _=>?_) | (with_reducible refine Xi ?_ fun _=>?_) | (with_reducible refine Zao ?_ ?_) | (with_reducible refine Zan ?_))
noncomputable def ZhK (p46:(List Tapi_Claim)) (p47:(List Int)) (y4:(Int×Bool)) (a0:Tapi_Dispute) (p45:(List Tapi_Claim)):Option (Tapi_Dispute×(List Int)×Int) :=
 (if (p46.length:Int)=0 then some (((0,0,zA 32,([]:(List Tapi_Claim))),([]:(List Int)),221)) else(Zih p46).bindF fun y66=>(if y66=true then(chk (0<p46.length)).bindF fun _=>((p46)[0]?).bindF fun x74=>ZeX p47 y4.1 a0.2.1 x74.2 p45 else ZeX p47 a0.1 y4.1 a0.2.2.1 p46))
theorem Zm6 (p46:(List Tapi_Claim)) (p47:(List Int)) (y4:(Int×Bool)) (a0:Tapi_Dispute) (p45:(List Tapi_Claim)):Le (ZhK p46 p47 y4 a0 p45) (ZhA p46 p47 y4 a0 p45):=by
 unfold ZhK ZhA;try dsimp only
 repeat' (first | (with_reducible exact Le.refl _) | (with_reducible apply Zlq) | (with_reducible apply Zm5) | (with_reducible refine Zap fun _=>?_) | (with_reducible refine Xi ?_ fun _=>?_) | (with_reducible refine Zao ?_ ?_) | (with_reducible refine Zan ?_))
noncomputable def ZeY (p81:Int) (p44:Int) (p90:(List Tapi_Claim)) (p91:(List Tapi_Claim)) (p92:(List Int)):Option ((Int×Int×(List Tapi_Claim)×(List Tapi_Claim)×(List Int)) ⊕ (Tapi_Dispute×(List Int)×Int)) :=
 some (.inl (p81,IntKind.i64.wrap (p44+1),p90,p91,p92))
theorem Zm7 (p81:Int) (p44:Int) (p90:(List Tapi_Claim)) (p91:(List Tapi_Claim)) (p92:(List Int)):Le (ZeY p81 p44 p90 p91 p92) (ZeS p81 p44 p90 p91 p92):=by
 unfold ZeY ZeS;try dsimp only
 repeat' (first | (with_reducible exact Le.refl _) | (with_reducible refine Zap fun _=>?_) | (with_reducible refine Xi ?_ fun _=>?_) | (with_reducible refine Zao ?_ ?_) | (with_reducible refine Zan ?_))
noncomputable def ZhL (p81:Int) (a1:(List Tapi_Claim)) (x75:Tapi_Claim) (p45:(List Tapi_Claim)) (p46:(List Tapi_Claim)) (p44:Int) (p47:(List Int)):Option ((Int×Int×(List Tapi_Claim)×(List Tapi_Claim)×(List Int)) ⊕ (Tapi_Dispute×(List Int)×Int)) :=
 ((if p81<(a1.length:Int) then(idx (a1) (p81)).bindF fun x84=>some (decide (x84.1=x75.1)) else some (false))).bindF fun z85=>(if (p81<(a1.length:Int)∧z85=true) then(chk (p45.length+1≤3518437208883)).bindF fun _=>(idx (a1) (p81)).bindF fun x94=>(chk (p46.length+1≤3518437208883)).bindF fun _=>ZeY p81 p44 (p45++[x75]) (p46++[x94]) p47 else(chk (p47.length+1≤17592186044416)).bindF fun _=>ZeY p81 p44 p45 p46 (p47++[x75.1]))
theorem Zm8 (p81:Int) (a1:(List Tapi_Claim)) (x75:Tapi_Claim) (p45:(List Tapi_Claim)) (p46:(List Tapi_Claim)) (p44:Int) (p47:(List Int)):Le (ZhL p81 a1 x75 p45 p46 p44 p47) (ZhB p81 a1 x75 p45 p46 p44 p47):=by
 unfold ZhL ZhB;try dsimp only
 repeat' (first | (with_reducible exact Le.refl _) | (with_reducible apply Zm7) | (with_reducible refine Zap fun _=>?_) | (with_reducible refine Xi ?_ fun _=>?_) | (with_reducible refine Zao ?_ ?_) | (with_reducible refine Zan ?_))
noncomputable def ZhM (a1:(List Tapi_Claim)) (x75:Tapi_Claim) (p45:(List Tapi_Claim)) (p46:(List Tapi_Claim)) (p44:Int) (p47:(List Int)):Int→Option ((Int) ⊕ ((Int×Int×(List Tapi_Claim)×(List Tapi_Claim)×(List Int)) ⊕ (Tapi_Dispute×(List Int)×Int)))
 | p81=>((if p81<(a1.length:Int) then(idx (a1) (p81)).bindF fun x97=>some (decide (x97.1<x75.1)) else some (false))).bindF fun z98=>(if (p81<(a1.length:Int)∧z98=true) then some (.inl (IntKind.i64.wrap (p81+1))) else(ZhL p81 a1 x75 p45 p46 p44 p47).map Sum.inr)
theorem Zm9 (a1:(List Tapi_Claim)) (x75:Tapi_Claim) (p45:(List Tapi_Claim)) (p46:(List Tapi_Claim)) (p44:Int) (p47:(List Int)) (s):Le (ZhM a1 x75 p45 p46 p44 p47 s) (ZhC a1 x75 p45 p46 p44 p47 s):=by
 unfold ZhM ZhC;try dsimp only
 repeat' (first | (with_reducible exact Le.refl _) | (with_reducible apply Zm8) | (with_reducible refine Zap fun _=>?_) | (with_reducible refine Xi ?_ fun _=>?_) | (with_reducible refine Zao ?_ ?_) | (with_reducible refine Zan ?_))
noncomputable def ZhN (a0:Tapi_Dispute) (a1:(List Tapi_Claim)) (y4:(Int×Bool)):(Int×Int×(List Tapi_Claim)×(List Tapi_Claim)×(List Int))→Option ((Int×Int×(List Tapi_Claim)×(List Tapi_Claim)×(List Int)) ⊕ (Tapi_Dispute×(List Int)×Int))
 | (p43,p44,p45,p46,p47)=>(if p44<(a0.2.2.2.length:Int) then(idx (a0.2.2.2) (p44)).bindF fun x75=>Zsq (ZhM a1 x75 p45 p46 p44 p47) p43 else(ZhK p46 p47 y4 a0 p45).map Sum.inr)
theorem Zna (a0:Tapi_Dispute) (a1:(List Tapi_Claim)) (y4:(Int×Bool)) (s):Le (ZhN a0 a1 y4 s) (ZhD a0 a1 y4 s):=by
 obtain⟨p43,p44,p45,p46,p47⟩:=s;unfold ZhN ZhD;try dsimp only
 repeat' (first | (with_reducible exact Le.refl _) | (with_reducible apply Zm9) | (with_reducible apply Zm6) | (with_reducible refine Zap fun _=>?_) | (with_reducible refine Xi ?_ fun _=>?_) | (with_reducible refine Zao ?_ ?_) | (with_reducible refine Zan ?_))
noncomputable def ZjV (a0:Tapi_Dispute) (a1:(List Tapi_Claim)):Option (Tapi_Dispute×(List Int)×Int) :=
 (ZfO a0).bindF fun y1=>((if ¬ (y1=true) then some (false) else(ZeW a1).bindF fun y2=>some (!(y2)))).bindF fun z3=>(if (¬ (y1=true)∨z3=true) then some (((0,0,zA 32,([]:(List Tapi_Claim))),([]:(List Int)),6)) else(ZhJ a0).bindF fun y4=>(if y4.2=true then some (((0,0,zA 32,([]:(List Tapi_Claim))),([]:(List Int)),171)) else Zsq (ZhN a0 a1 y4) (0,0,[],[],[])))
theorem Zok (a0:Tapi_Dispute) (a1:(List Tapi_Claim)):Le (ZjV a0 a1) (ZjP a0 a1):=by
 unfold ZjV ZjP;try dsimp only
 repeat' (first | (with_reducible exact Le.refl _) | (with_reducible apply Ziu) | (with_reducible apply ZhI) | (with_reducible apply Zmu) | (with_reducible apply Zna) | (with_reducible refine Zap fun _=>?_) | (with_reducible refine Xi ?_ fun _=>?_) | (with_reducible refine Zao ?_ ?_) | (with_reducible refine Zan ?_))
noncomputable def Zlj (a0:Tapi_Dispute):Option (Bool) :=
 (ZfO a0).bindF fun y1=>((if y1=true then(Zih a0.2.2.2).bindF fun y2=>some (!(y2)) else some (false))).bindF fun z3=>some ((y1 && z3))
theorem Zpw (a0:Tapi_Dispute):Le (Zlj a0) (Zle a0):=by
 unfold Zlj Zle;try dsimp only
 repeat' (first | (with_reducible exact Le.refl _) | (with_reducible apply Ziu) | (with_reducible apply Zlq) | (with_reducible refine Zap fun _=>?_) | (with_reducible refine Xi ?_ fun _=>?_) | (with_reducible refine Zao ?_ ?_) | (with_reducible refine Zan ?_))
noncomputable def Zjg (a0:Int):Option Int :=
 (chk (0≤a0∧a0≤18446744073709551615)).bindF fun _=>some (Lib.bitLen a0.toNat:Int)
theorem ZnV (a0:Int):Le (Zjg a0) (Yx a0):=by
 unfold Zjg Yx;try dsimp only
 repeat' (first | (with_reducible exact Le.refl _) | (with_reducible refine Zap fun _=>?_) | (with_reducible refine Xi ?_ fun _=>?_) | (with_reducible refine Zao ?_ ?_) | (with_reducible refine Zan ?_))
noncomputable def ZjW (a0:Int) (a1:Int):Option (Int) :=
 (if a1≤a0 then some (0) else(Zjg (IntKind.u64.wrap ((IntKind.u64.wrap ((IntKind.u64.wrap (a1))-(IntKind.u64.wrap (a0))))-1))).bindF fun y1=>some (y1))
theorem Zol (a0:Int) (a1:Int):Le (ZjW a0 a1) (ZjQ a0 a1):=by
 unfold ZjW ZjQ;try dsimp only
 repeat' (first | (with_reducible exact Le.refl _) | (with_reducible apply ZnV) | (with_reducible refine Zap fun _=>?_) | (with_reducible refine Xi ?_ fun _=>?_) | (with_reducible refine Zao ?_ ?_) | (with_reducible refine Zan ?_))
noncomputable def Flaw22_sane:Option (Bool) :=
 (Zkq 0 (zA 32) 8 [(1,(zA 32).put 0 1),(4,(zA 32).put 0 2)]).bindF fun y1=>(ZhJ y1.1).bindF fun y2=>(ZjV y1.1 [(1,(zA 32).put 0 1),((4,(zA 32).put 0 2).1,(1,(zA 32).put 0 1).2)]).bindF fun y3=>(ZhJ y3.1).bindF fun y4=>((if (y1.2=0∧y3.2.2=0) then(Zlj y1.1).bindF fun y5=>some (y5) else some (false))).bindF fun z6=>((if ((((((y1.2=0∧y3.2.2=0)∧z6=true)∧y2.1=4)∧¬ (y2.2=true))∧(y3.2.1.length:Int)=0)∧y4.1=6) then(ZjW 0 8).bindF fun y7=>some (decide (y7=3)) else some (false))).bindF fun z8=>some ((((((((decide (y1.2=0) && decide (y3.2.2=0)) && z6) && decide (y2.1=4)) && !(y2.2)) && decide ((y3.2.1.length:Int)=0)) && decide (y4.1=6)) && z8))
theorem Flaw22_sane_le:Le (Flaw22_sane) (Llaw22_sane):=by
 unfold Flaw22_sane Llaw22_sane;try dsimp only
 repeat' (first | (with_reducible exact Le.refl _) | (with_reducible apply Zo2) | (with_reducible apply Zmu) | (with_reducible apply Zok) | (with_reducible apply Zpw) | (with_reducible apply Zol) | (with_reducible refine Zap fun _=>?_) | (with_reducible refine Xi ?_ fun _=>?_) | (with_reducible refine Zao ?_ ?_) | (with_reducible refine Zan ?_))
theorem sane22F:Flaw22_sane=some true:=by kernel_rfl
theorem sane22:Llaw22_sane=some true:=Flaw22_sane_le _ sane22F
end
end Go.Lc
namespace Go.Av
open Go.RowKit
open Go.Av
set_option linter.unusedVariables false
set_option linter.unusedSimpArgs false
theorem Zyu {x:Int}(h:(Lit.int .i64 x).wf=true):-9223372036854775808≤x∧x≤9223372036854775807:=by simpa[Lit.wf,IntKind.has,IntKind.min,IntKind.max,IntKind.signed,IntKind.bits] using h
theorem Zsr {x:Int}(h:(Lit.int .u8 x).wf=true):0≤x∧x≤255:=by simpa[Lit.wf,IntKind.has,IntKind.min,IntKind.max,IntKind.signed,IntKind.bits] using h
end Go.Av
namespace Go.Lc
open Go.RowKit
open Go.Av
set_option linter.unusedVariables false
set_option linter.unusedSimpArgs false
theorem Zq0 (bad:Nat→Prop):∀ n,(∃ i,i<n∧bad i)→∃ m,m<n∧bad m∧∀ j,j<m→¬ bad j:=by
 classical
 intro n;induction n with
 | zero=>rintro⟨i,h,_⟩; omega
 | succ n ih =>
  intro h;by_cases hx:∃ i,i<n∧bad i
  ·obtain⟨m,h1,h2,h3⟩:=ih hx
   exact⟨m,by omega,h2,h3⟩
  ·obtain⟨i,hi,hb⟩:=h
   have:i=n:=by
    rcases Nat.lt_or_ge i n with h' | h'
    ·exact absurd ⟨i,h',hb⟩ hx
    ·omega
   subst this;exact⟨i,by omega,hb,fun j hj hb=>hx ⟨j,hj,hb⟩⟩
theorem Zss {σ ρ:Type}{step:σ→Option (σ ⊕ ρ)}(enc:Nat→σ) (n:Nat) (bad:Nat→Prop) (rb x:Option ρ) (h:∀ i,i<n→¬ bad i→step (enc i)=some (.inl (enc (i+1)))) (hb:∀ i,i<n→bad i→step (enc i)=rb.map .inr) (he:step (enc n)=x.map .inr):Zd step (enc 0)=(by classical exact if ∃ i,i<n∧bad i then rb else x):=by
 classical
 by_cases hx:∃ i,i<n∧bad i
 ·rw[if_pos hx]
  obtain⟨m,hm,hbm,hmin⟩:=Zq0 bad n hx;exact ZQ enc m (fun i hi=>h i (by omega) (hmin i hi)) (hb m hm hbm)
 ·rw[if_neg hx]
  exact ZQ enc n (fun i hi=>h i hi fun hbi=>hx ⟨i,hi,hbi⟩) he
theorem ZvV {σ ρ α:Type}{step:σ→Option (σ ⊕ ρ)}(enc:Nat→σ) (l:List α) (bad:α→Prop) (rb x:Option ρ) (h:∀ i (hi:i<l.length),¬ bad l[i]→step (enc i)=some (.inl (enc (i+1)))) (hb:∀ i (hi:i<l.length),bad l[i]→step (enc i)=rb.map .inr) (he:step (enc l.length)=x.map .inr):Zd step (enc 0)=(by classical exact if ∃ a∈l,bad a then rb else x):=by
 classical
 rw[Zss enc l.length (fun i=>∃ hi:i<l.length,bad l[i]) rb x (fun i hi hn=>h i hi fun hb=>hn ⟨hi,hb⟩) (fun i hi ⟨_,hbi⟩=>hb i hi hbi) he]
 have:(∃ i,i<l.length∧∃ hi:i<l.length,bad l[i])↔∃ a∈l,bad a:=by
  constructor
  ·rintro⟨i,_,hi,hb⟩
   exact⟨_,List.getElem_mem hi,hb⟩
  ·rintro⟨a,ha,hb⟩
   obtain⟨i,hi,rfl⟩:=List.getElem_of_mem ha;exact⟨i,hi,hi,hb⟩
 simp only[this]
theorem Zfd {σ ρ α:Type}{step:σ→Option (σ ⊕ ρ)}(enc:Nat→σ) (l:List α) (bad:α→Prop) (rb x:Option ρ) [inst:Decidable (∃ a∈l,bad a)] (h:∀ i (hi:i<l.length),¬ bad l[i]→step (enc i)=some (.inl (enc (i+1)))) (hb:∀ i (hi:i<l.length),bad l[i]→step (enc i)=rb.map .inr) (he:step (enc l.length)=x.map .inr){s:σ}(hs:s=enc 0):Zd step s=if ∃ a∈l,bad a then rb else x:=by
 subst hs;rw[ZvV enc l bad rb x h hb he];split
 ·rfl
 ·rfl
theorem Zbv {α β:Type}{l:List α}(f:α→List β){i:Nat}(h:i<l.length):(l.take (i+1)).flatMap f=(l.take i).flatMap f++f l[i]:=by
 rw[List.take_succ_eq_append_getElem h,List.flatMap_append];simp
theorem ZeZ {α β:Type}(l:List α) (f:α→List β) (i:Nat):((l.take i).flatMap f).length≤(l.flatMap f).length:=by
 conv=>rhs; rw[← List.take_append_drop i l]
 rw[List.flatMap_append,List.length_append];omega
def Yk (n:Int) (k:Nat):List Int:=(List.range k).map fun i=>IntKind.u8.wrap (n.fdiv (2 ^ (8 * i)))
@[simp] theorem Zfe (n:Int) (k:Nat):(Yk n k).length=k:=by simp[Yk]
theorem ZtI {i:Nat}(h:i<8):min (IntKind.i64.wrap (8 * (i:Int))).toNat 64=8 * i:=by
 rw[wi _ (by omega)];omega
theorem Zom (n:Int) (k:Nat) (hk:k≤8):Xq n k=some (Yk n k):=by
 unfold Xq;rw[Zj (by omega)]
 have:=ZQ (step:=ZdO k n) (fun i=>((i:Int),((List.range i).map fun i=>IntKind.u8.wrap (n.fdiv (2 ^ (8 * i))))++List.replicate (k-i) 0)) k (x:=some (Yk n k)) (fun i hi=>by
  simp only[ZdO];rw[if_pos (by omega),Zj (by rw[wi _ (by omega)]; omega),Zsn _ _ (by omega),YE hi,ZtI (by omega),ZqY (fun i=>IntKind.u8.wrap (n.fdiv (2 ^ (8 * i)))) 0 hi,Zp hi (by omega)]) (by
  simp only[ZdO];rw[if_neg (by omega)]
  simp[Zf0,Yk])
 simpa using this
theorem Zjr (n:Int) (k:Nat) (hk:k≤8):Yg n k=some (Yk n k):=by
 unfold Yg;rw[Zj (by omega)]
 have:=ZQ (step:=ZdP k n) (fun i=>((i:Int),((List.range i).map fun i=>IntKind.u8.wrap (n.fdiv (2 ^ (8 * i))))++List.replicate (k-i) 0)) k (x:=some (Yk n k)) (fun i hi=>by
  simp only[ZdP];rw[if_pos (by simp; omega),Zj (by rw[wi _ (by omega)]; omega),Zsn _ _ (by omega),YE hi,ZtI (by omega),ZqY (fun i=>IntKind.u8.wrap (n.fdiv (2 ^ (8 * i)))) 0 hi,Zp hi (by omega)]) (by
  simp only[ZdP];rw[if_neg (by simp)]
  simp[Zf2,Yk])
 simpa using this
theorem Ze0 {a b:List Int}(h:a.length+b.length≤140737488355328):YK a b=some (a++b):=by
 unfold YK;rw[wi _ (by omega),Zj (by omega),Zj (by omega),Zj (by omega)]
theorem Zae {a b:List Int}(h:a.length+b.length≤140737488355328):Yf a b=some (a++b):=by
 unfold Yf;rw[wi _ (by omega),Zj (by omega),Zj (by omega),Zj (by omega)]
section
variable {b:List Int}{n:Int}
theorem ZjX (h:b.length≤140737488355000):Ya b n=some (b++Yk (IntKind.u64.wrap n) 4):=by
 unfold Ya;have this:Xq (IntKind.u64.wrap n) 4=some (Yk (IntKind.u64.wrap n) 4):=Zom _ 4 (by omega);rw[this,Za,Ze0 (by simp; omega)];rfl
theorem ZvW (h:b.length≤140737488355000):ZaN b n=some (b++Yk n 8):=by
 unfold ZaN;have this:Xq n 8=some (Yk n 8):=Zom _ 8 (by omega);rw[this,Za,Ze0 (by simp; omega)];rfl
theorem Zzr (h:b.length≤140737488355000):ZbV b n=some (b++Yk (IntKind.u64.wrap n) 2):=by
 unfold ZbV;have this:Xq (IntKind.u64.wrap n) 2=some (Yk (IntKind.u64.wrap n) 2):=Zom _ 2 (by omega);rw[this,Za,Ze0 (by simp; omega)];rfl
theorem ZeA (h:b.length≤140737488355000):Z3 b n=some (b++Yk (IntKind.u64.wrap n) 4):=by
 unfold Z3;have this:Yg (IntKind.u64.wrap n) 4=some (Yk (IntKind.u64.wrap n) 4):=Zjr _ 4 (by omega);rw[this,Za,Zae (by simp; omega)];rfl
theorem Zyv (h:b.length≤140737488355000):ZbW b n=some (b++Yk n 8):=by
 unfold ZbW;have this:Yg n 8=some (Yk n 8):=Zjr _ 8 (by omega);rw[this,Za,Zae (by simp; omega)];rfl
def Za9 (n:Int):List Int:=if n<253 then Yk n 1 else if n<65536 then 253 :: Yk n 2 else if n<4294967296 then 254 :: Yk n 4 else 255 :: Yk n 8
theorem Zaz (n:Int):(Za9 n).length≤9:=by
 unfold Za9;split
 ·simp
 ·split
  ·simp
  ·split <;> simp
theorem ZlN (h0:0≤n∧n≤18446744073709551615) (h:b.length≤140737488354900):YA b n=some (b++Za9 n):=by
 unfold YA Za9;split
 ·rw[Ze0 (by simp; omega)]
  simp[Yk]
 ·split
  ·rw[Ze0 (by simp; omega),Za,Zzr (by simp; omega),IntWalk.u16_in _ (by omega),wu _ (by omega)]
   simp
  ·split
   ·rw[Ze0 (by simp; omega),Za,ZjX (by simp; omega),IntWalk.u32_in _ (by omega),wu _ (by omega)]
    simp
   ·rw[Ze0 (by simp; omega),Za,ZvW (by simp; omega)]
    simp
theorem Zkr (h0:0≤n∧n≤18446744073709551615) (h:b.length≤140737488354900):YB b n=some (b++Za9 n):=by
 have l1:Yg n 1=some (Yk n 1):=Zjr n 1 (by omega);have l2:Yg n 2=some (Yk n 2):=Zjr n 2 (by omega);have l4:Yg n 4=some (Yk n 4):=Zjr n 4 (by omega);have l8:Yg n 8=some (Yk n 8):=Zjr n 8 (by omega);unfold YB Za9;split
 ·rw[l1,Za,Zae (by simp; omega)]
  rfl
 ·split
  ·rw[l2,Za,Zae (by simp),Za,Zae (by simp; omega)]
   rfl
  ·split
   ·rw[l4,Za,Zae (by simp),Za,Zae (by simp; omega)]
    rfl
   ·rw[l8,Za,Zae (by simp),Za,Zae (by simp; omega)]
    rfl
end
def bytesB (s:List Int):List Int:=Za9 s.length++s
theorem ZlA (s:List Int):(bytesB s).length≤9+s.length:=by
 have:=Zaz s.length;simp[bytesB]
 omega
theorem Zg0 {n:Nat}(h:n≤140737488355328):IntKind.u64.wrap (n:Int)=n:=wu _ (by omega)
theorem Zon {b s:List Int}(h:b.length+s.length≤140737488354900):Xf b s=some (b++bytesB s):=by
 unfold Xf;have:=Zaz s.length;rw[Zg0 (by omega),ZlN (by omega) (by omega),Za,Ze0 (by simp; omega)];simp[bytesB]
theorem Zoo {b s:List Int}(h:b.length+s.length≤140737488354900):Xg b s=some (b++bytesB s):=by
 unfold Xg;have:=Zaz s.length;rw[Zg0 (by omega),Zkr (by omega) (by omega),Za,Zae (by simp; omega)];simp[bytesB]
theorem Zqt {b:List Int}{a:Arr 32}(h:b.length≤140737488355000):Xx b a=some (b++a.l):=by
 unfold Xx;rw[Ze0 (by rw[a.hl]; omega)];rfl
theorem Zks {b:List Int}{a:Arr 32}(h:b.length≤140737488355000):YC b a=some (b++a.l):=by
 unfold YC;rw[Zae (by rw[a.hl]; omega)];rfl
def ZkW (o:Tapi_OutPoint):List Int:=o.1.l++Yk (IntKind.u64.wrap o.2) 4
@[simp] theorem ZnF (o:Tapi_OutPoint):(ZkW o).length=36:=by simp[ZkW,o.1.hl]
theorem Zst (o:Tapi_OutPoint):ZfR o=some (ZkW o):=by
 unfold ZfR;rw[Zqt (by simp),Za,ZjX (by simp[o.1.hl])];rfl
theorem Zop (o:Tapi_OutPoint):Zbf o=some (ZkW o):=by
 unfold Zbf;rw[Zks (by simp),Za,ZeA (by simp[o.1.hl])];rfl
def inB (x:Tapi_Input):List Int:=ZkW x.1++Yk (IntKind.u64.wrap x.2.1) 4
@[simp] theorem Zyw (x:Tapi_Input):(inB x).length=40:=by simp[inB]
def ZhO (o:Tapi_Output):List Int:=Yk (IntKind.u64.wrap o.1) 8++bytesB o.2
def Zoq (x:Tapi_Input):List Int:=Za9 x.2.2.length++x.2.2.flatMap bytesB
def Zmv (t:Tapi_Tx):List Int:=Yk (IntKind.u64.wrap t.1) 4++Za9 t.2.1.length
def Xc (t:Tapi_Tx) (w:Bool):List Int:=Zmv t++t.2.1.flatMap inB++Za9 t.2.2.1.length++t.2.2.1.flatMap ZhO++Yk (IntKind.u64.wrap t.2.2.2) 4++(if w then t.2.1.flatMap Zoq else[])
def ZaY (t:Tapi_Tx):Nat:=100+(t.2.1.map fun x=>60+(x.2.2.map fun s=>20+s.length).sum).sum+(t.2.2.1.map fun o=>60+o.2.length).sum
theorem Znb {α β:Type}(f:α→List β) (g:α→Nat) (h:∀ a,(f a).length≤g a) (l:List α):(l.flatMap f).length≤(l.map g).sum:=by
 induction l with
 | nil=>simp
 | cons a l ih =>
  simp only[List.flatMap_cons,List.length_append,List.map_cons,List.sum_cons];have:=h a;omega
theorem ZnG {α:Type}(g:α→Nat){l:List α}{a:α}(h:a∈l):g a≤(l.map g).sum:=by
 induction l with
 | nil=>simp at h
 | cons b l ih =>
  simp only[List.map_cons,List.sum_cons];rcases List.mem_cons.1 h with rfl | h
  ·omega
  ·have:=ih h
   omega
theorem Zmd {α:Type}(g:α→Nat) (c:Nat) (h:∀ a,c≤g a) (l:List α):c * l.length≤(l.map g).sum:=by
 induction l with
 | nil=>simp
 | cons a l ih =>
  have:=h a;simp only[List.map_cons,List.sum_cons,List.length_cons,Nat.mul_add];omega
theorem Zyx (x:Tapi_Input):(Zoq x).length≤9+(x.2.2.map fun s=>20+s.length).sum:=by
 have h1:=Zaz x.2.2.length;have h2:=Znb bytesB (fun s=>20+s.length) (fun s=>by have:=ZlA s; omega) x.2.2;simp only[Zoq,List.length_append];omega
theorem Zyy (o:Tapi_Output):(ZhO o).length≤20+o.2.length:=by
 have:=ZlA o.2;simp only[ZhO,List.length_append,Zfe];omega
section
variable {t:Tapi_Tx}{w:Bool}
def ZhP (t:Tapi_Tx) (i:Nat):List Int:=Zmv t++(t.2.1.take i).flatMap inB
def ZhQ (t:Tapi_Tx) (i:Nat):List Int:=Zmv t++t.2.1.flatMap inB++Za9 t.2.2.1.length++(t.2.2.1.take i).flatMap ZhO
def Zgg (t:Tapi_Tx) (i:Nat):List Int:=Zmv t++t.2.1.flatMap inB++Za9 t.2.2.1.length++t.2.2.1.flatMap ZhO++Yk (IntKind.u64.wrap t.2.2.2) 4++(t.2.1.take i).flatMap Zoq
theorem Zqu (t:Tapi_Tx):(t.2.1.flatMap inB).length+(t.2.1.flatMap Zoq).length≤(t.2.1.map fun x=>60+(x.2.2.map fun s=>20+s.length).sum).sum:=by
 induction t.2.1 with
 | nil=>simp
 | cons x l ih =>
  have:=Zyx x;simp only[List.flatMap_cons,List.length_append,List.map_cons,List.sum_cons,Zyw];omega
theorem Zsu (t:Tapi_Tx):(t.2.2.1.flatMap ZhO).length≤(t.2.2.1.map fun o=>60+o.2.length).sum:=Znb ZhO _ (fun o=>by have:=Zyy o; omega) _
theorem Zor (t:Tapi_Tx):(Zmv t).length≤13:=by
 have:=Zaz t.2.1.length;simp only[Zmv,List.length_append,Zfe];omega
theorem Zqv (i:Nat):(ZhP t i).length+50≤ZaY t:=by
 have h1:=Zor t;have h2:=ZeZ t.2.1 inB i;have h3:=Zqu t;simp only[ZhP,ZaY,List.length_append];omega
theorem Znc (i:Nat):(ZhQ t i).length+50≤ZaY t:=by
 have h1:=Zor t;have h2:=ZeZ t.2.2.1 ZhO i;have h3:=Zqu t;have h4:=Zsu t;have h5:=Zaz t.2.2.1.length;simp only[ZhQ,ZaY,List.length_append];omega
theorem Zqw (i:Nat):(Zgg t i).length+50≤ZaY t:=by
 have h1:=Zor t;have h2:=ZeZ t.2.1 Zoq i;have h3:=Zqu t;have h4:=Zsu t;have h5:=Zaz t.2.2.1.length;simp only[Zgg,ZaY,List.length_append,Zfe];omega
theorem Zkt (t:Tapi_Tx):t.2.1.length≤ZaY t:=by
 have:=Zmd (fun x:Tapi_Input=>60+(x.2.2.map fun s=>20+s.length).sum) 60 (fun x=>by omega) t.2.1;unfold ZaY;omega
theorem Zq1 (t:Tapi_Tx):t.2.2.1.length≤ZaY t:=by
 have:=Zmd (fun o:Tapi_Output=>60+o.2.length) 60 (fun x=>by omega) t.2.2.1;unfold ZaY;omega
theorem ZtJ {x:Tapi_Input}(h:x∈t.2.1):60+(x.2.2.map fun s=>20+s.length).sum≤ZaY t:=by
 have:=ZnG (fun x:Tapi_Input=>60+(x.2.2.map fun s=>20+s.length).sum) h;unfold ZaY;omega
theorem Zsv {o:Tapi_Output}(h:o∈t.2.2.1):60+o.2.length≤ZaY t:=by
 have:=ZnG (fun o:Tapi_Output=>60+o.2.length) h;unfold ZaY;omega
theorem Zmw {x:Tapi_Input}(h:x∈t.2.1):x.2.2.length≤ZaY t:=by
 have h1:=ZtJ h;have:=Zmd (fun s:List Int=>20+s.length) 20 (fun x=>by omega) x.2.2;omega
theorem Zsw {x:Tapi_Input}(h:x∈t.2.1){s:List Int}(hs:s∈x.2.2):20+s.length≤ZaY t:=by
 have h1:=ZtJ h;have:=ZnG (fun s:List Int=>20+s.length) hs;omega
end
section
variable {t:Tapi_Tx}{w:Bool}
theorem Zos {i:Nat}(h:i<t.2.1.length):Zgg t (i+1)=Zgg t i++Za9 (t.2.1[i]).2.2.length++(t.2.1[i]).2.2.flatMap bytesB:=by
 simp only[Zgg,Zbv Zoq h,Zoq,List.append_assoc]
theorem Zsx {i:Nat}(h:i<t.2.1.length):(Zgg t i++Za9 (t.2.1[i]).2.2.length).length+((t.2.1[i]).2.2.flatMap bytesB).length+50≤ZaY t:=by
 have:=Zqw (t:=t) (i+1);rw[Zos h] at this;simp only[List.length_append] at this ⊢;omega
theorem ZtK {x:Tapi_Input}{j:Nat}(h:j<x.2.2.length):((x.2.2.take j).flatMap bytesB).length+(bytesB x.2.2[j]).length≤(x.2.2.flatMap bytesB).length:=by
 have:=ZeZ x.2.2 bytesB (j+1);rw[Zbv bytesB h] at this;simpa using this
theorem Zyz (hM:ZaY t≤1000000000000){i:Nat}(h:i<t.2.1.length){q:List Int}(hq:q.length+((t.2.1[i]).2.2.flatMap bytesB).length+50≤ZaY t) :
  Zd (Zel t.2.1[i] (i:Int)) (0,q)=some (.inl (((i+1:Nat):Int),q++(t.2.1[i]).2.2.flatMap bytesB)):=by
 have hmem:=List.getElem_mem h;have hwl:=Zmw hmem;have hil:=Zkt t;generalize t.2.1[i]=x at hq hmem hwl ⊢
 have:=ZQ (step:=Zel x (i:Int)) (fun j=>((j:Int),q++(x.2.2.take j).flatMap bytesB)) x.2.2.length (x:=some (.inl (((i+1:Nat):Int),q++x.2.2.flatMap bytesB))) (fun j hj=>by
  simp only[Zel];have h1:=ZtK hj;have h2:=Zsw hmem (List.getElem_mem hj);rw[if_pos (by omega),Zi hj,Zon (by simp; omega),Za,Zj (by simp only[List.length_append,List.nil_append]; omega),Zp hj (by omega),Zbv bytesB hj];simp) (by
  simp only[Zel];rw[if_neg (by omega)]
  simp only[Zc1,List.take_length,Zp h (by omega)])
 simpa using this
theorem ZAw (hM:ZaY t≤1000000000000):ZbF t (ZhQ t t.2.2.1.length) w=some (Xc t w):=by
 have hil:=Zkt t;have h2:=Znc (t:=t) t.2.2.1.length;unfold ZbF;rw[ZjX (by simp),Za,Zj (by simp; omega)];have he:ZhQ t t.2.2.1.length++([]++Yk (IntKind.u64.wrap t.2.2.2) 4)=Zgg t 0:=by simp[ZhQ,Zgg]
 rw[he];cases w with
 | false=>simp[Xc,Zgg]
 | true =>
  rw[if_neg (by simp)]
  have:=ZQ (step:=Zgm t) (fun i=>((i:Int),Zgg t i)) t.2.1.length (x:=some (Xc t true)) (fun i hi=>by
   have h3:=Zsx hi;have h5:=Zmw (List.getElem_mem hi);simp only[Zgm];rw[if_pos (by omega),Zi hi,Zg0 (by omega),ZlN (by omega) (by simp),Za,Zj (by simp only[List.length_append,List.nil_append] at h3 ⊢; omega),List.nil_append,Zyz hM hi h3,Zos hi]) (by
   simp only[Zgm];rw[if_neg (by omega)]
   simp[Zc0,Zgg,Xc])
  simpa using this
theorem Zq2 {i:Nat}(h:i<t.2.2.1.length):ZhQ t (i+1)=ZhQ t i++Yk (IntKind.u64.wrap (t.2.2.1[i]).1) 8++bytesB (t.2.2.1[i]).2:=by
 simp only[ZhQ,Zbv ZhO h,ZhO,List.append_assoc]
theorem ZAx (hM:ZaY t≤1000000000000):ZbG t (ZhP t t.2.1.length) w=some (Xc t w):=by
 have hol:=Zq1 t;have h2:=Znc (t:=t) 0;have h1:=Zaz t.2.2.1.length;have he:ZhP t t.2.1.length++Za9 t.2.2.1.length=ZhQ t 0:=by simp[ZhP,ZhQ]
 unfold ZbG;rw[Zg0 (by omega),ZlN (by omega) (by simp),Za,List.nil_append,Zj (by rw[← List.length_append,he]; omega),he]
 have:=ZQ (step:=Zgn t w) (fun i=>((i:Int),ZhQ t i)) t.2.2.1.length (x:=some (Xc t w)) (fun i hi=>by
  have h3:=Znc (t:=t) (i+1);have h4:=Zsv (List.getElem_mem hi);rw[Zq2 hi] at h3 ⊢;simp only[List.length_append,Zfe] at h3;simp only[Zgn];rw[if_pos (by omega),Zi hi,ZvW (by simp),Za,Zj (by simp; omega),Zon (by simp; omega),Za,Zj (by simp; omega),Zp hi (by omega)];simp) (by
  simp only[Zgn]
  rw[if_neg (by omega),ZAw hM])
 simpa using this
theorem Zq3 {i:Nat}(h:i<t.2.1.length):ZhP t (i+1)=ZhP t i++ZkW (t.2.1[i]).1++Yk (IntKind.u64.wrap (t.2.1[i]).2.1) 4:=by
 simp only[ZhP,Zbv inB h,inB,List.append_assoc]
theorem Zmx (hM:ZaY t≤1000000000000):Zf1 t w=some (Xc t w):=by
 have hil:=Zkt t;have h1:=Zaz t.2.1.length;have he:Yk (IntKind.u64.wrap t.1) 4++Za9 t.2.1.length=ZhP t 0:=by simp[ZhP,Zmv]
 unfold Zf1;rw[ZjX (by simp),Za,Zg0 (by omega),ZlN (by omega) (by simp),Za,List.nil_append,List.nil_append,Zj (by simp; omega),he]
 have:=ZQ (step:=Zgo t w) (fun i=>((i:Int),ZhP t i)) t.2.1.length (x:=some (Xc t w)) (fun i hi=>by
  have h3:=Zqv (t:=t) (i+1);rw[Zq3 hi] at h3 ⊢;simp only[List.length_append,Zfe,ZnF] at h3;simp only[Zgo];rw[if_pos (by omega),Zi hi,Zst,Za,Zj (by simp; omega),ZjX (by simp),Za,Zj (by simp; omega),Zp hi (by omega)];simp) (by
  simp only[Zgo]
  rw[if_neg (by omega),ZAx hM])
 simpa using this
theorem Zqx {o:Tapi_Output}(h:o.2.length≤140737488354000):ZeH o=some (ZhO o):=by
 unfold ZeH;rw[Zyv (by simp),Za,Zoo (by simp; omega)];rfl
theorem Zxk (hM:ZaY t≤1000000000000){i:Nat}(h:i<t.2.1.length){q:List Int}(hq:q.length+((t.2.1[i]).2.2.flatMap bytesB).length+50≤ZaY t) :
  Zd (ZbX t.2.1[i] (i:Int)) (0,q)=some (.inl (((i+1:Nat):Int),q++(t.2.1[i]).2.2.flatMap bytesB)):=by
 have hmem:=List.getElem_mem h;have hwl:=Zmw hmem;have hil:=Zkt t;generalize t.2.1[i]=x at hq hmem hwl ⊢
 have:=ZQ (step:=ZbX x (i:Int)) (fun j=>((j:Int),q++(x.2.2.take j).flatMap bytesB)) x.2.2.length (x:=some (.inl (((i+1:Nat):Int),q++x.2.2.flatMap bytesB))) (fun j hj=>by
  simp only[ZbX];have h1:=ZtK hj;have h2:=Zsw hmem (List.getElem_mem hj);rw[if_pos (by omega),Zi hj,Zoo (by simp only[List.length_append]; omega),Za,Zp hj (by omega),Zbv bytesB hj];simp) (by
  simp only[ZbX];rw[if_neg (by omega)]
  simp only[ZaO,List.take_length,Zp h (by omega)])
 simpa using this
theorem Zzs (hM:ZaY t≤1000000000000):XZ (ZhQ t t.2.2.1.length) t w=some (Xc t w):=by
 have hil:=Zkt t;have h2:=Znc (t:=t) t.2.2.1.length;unfold XZ;rw[ZeA (by omega),Za];have he:ZhQ t t.2.2.1.length++Yk (IntKind.u64.wrap t.2.2.2) 4=Zgg t 0:=by simp[ZhQ,Zgg]
 rw[he];cases w with
 | false =>
  by_cases h0:(0:Int)<t.2.1.length
  ·refine Xb ?_
   simp only[ZaP];rw[if_pos h0,show(0:Int)=((0:Nat):Int) from rfl,Zi (by omega)];simp[YY,Xc,Zgg]
  ·refine Xb ?_
   simp only[ZaP];rw[if_neg h0];simp[YY,Xc,Zgg]
 | true =>
  have:=ZQ (step:=ZaP t true) (fun i=>((i:Int),Zgg t i)) t.2.1.length (x:=some (Xc t true)) (fun i hi=>by
   have h3:=Zsx hi;have h4:=Zqw (t:=t) i;have h5:=Zmw (List.getElem_mem hi);simp only[ZaP];rw[if_pos (by omega),Zi hi,if_neg (by simp),Zg0 (by omega),Zkr (by omega) (by omega),Za,Zxk hM hi h3,Zos hi]) (by
   simp only[ZaP];rw[if_neg (by omega)]
   simp[YY,Zgg,Xc])
  simpa using this
theorem Zzt (hM:ZaY t≤1000000000000):X0 (ZhP t t.2.1.length) t w=some (Xc t w):=by
 have hol:=Zq1 t;have h0:=Zqv (t:=t) t.2.1.length;have he:ZhP t t.2.1.length++Za9 t.2.2.1.length=ZhQ t 0:=by simp[ZhP,ZhQ]
 unfold X0;rw[Zg0 (by omega),Zkr (by omega) (by omega),Za,he]
 have:=ZQ (step:=ZdQ t w) (fun i=>((i:Int),ZhQ t i)) t.2.2.1.length (x:=some (Xc t w)) (fun i hi=>by
  have h3:=Znc (t:=t) (i+1);have h4:=Zsv (List.getElem_mem hi);rw[Zq2 hi] at h3 ⊢;simp only[List.length_append,Zfe] at h3;simp only[ZdQ];rw[if_pos (by omega),Zi hi,Zqx (by omega),Za,Zj (by simp only[ZhO,List.length_append,Zfe]; omega),Zp hi (by omega)];simp[ZhO]) (by
  simp only[ZdQ]
  rw[if_neg (by omega),Zzs hM])
 simpa using this
theorem ZlB (hM:ZaY t≤1000000000000):ZaI t w=some (Xc t w):=by
 have hil:=Zkt t;have he:Yk (IntKind.u64.wrap t.1) 4++Za9 t.2.1.length=ZhP t 0:=by simp[ZhP,Zmv]
 unfold ZaI;rw[ZeA (by simp),Za,Zg0 (by omega),Zkr (by omega) (by simp),Za,List.nil_append,he]
 have:=ZQ (step:=ZdR t w) (fun i=>((i:Int),ZhP t i)) t.2.1.length (x:=some (Xc t w)) (fun i hi=>by
  have h3:=Zqv (t:=t) (i+1);rw[Zq3 hi] at h3 ⊢;simp only[List.length_append,Zfe,ZnF] at h3;simp only[ZdR];rw[if_pos (by omega),Zi hi,Zop,Za,Zj (by simp; omega),ZeA (by simp; omega),Za,Zp hi (by omega)]) (by
  simp only[ZdR]
  rw[if_neg (by omega),Zzt hM])
 simpa using this
def Zku (t:Tapi_Tx):Prop:=t.2.1.length≤64∧t.2.2.1.length≤64∧(∀ o∈t.2.2.1,0≤o.1∧o.2.length≤520)∧∀ x∈t.2.1,x.2.2.length≤32∧∀ s∈x.2.2,s.length≤520
noncomputable def Ye (t:Tapi_Tx):Bool:=by classical exact decide (Zku t∧(Xc t true).length≤20000)
theorem Zme {α:Type}(g:α→Nat) (c:Nat){l:List α}(h:∀ a∈l,g a≤c):(l.map g).sum≤c * l.length:=by
 induction l with
 | nil=>simp
 | cons a l ih =>
  have h1:=h a (by simp);have h2:=ih fun b hb=>h b (by simp[hb])
  simp only[List.map_cons,List.sum_cons,List.length_cons,Nat.mul_add];omega
theorem ZrH (h:Zku t):ZaY t≤3000000:=by
 obtain⟨h1,h2,h3,h4⟩:=h
 have e1:=Zme (fun x:Tapi_Input=>60+(x.2.2.map fun s=>20+s.length).sum) 20000 (l:=t.2.1) (fun x hx=>by
  obtain⟨g1,g2⟩:=h4 x hx;have:=Zme (fun s:List Int=>20+s.length) 540 (l:=x.2.2) (fun s hs=>by have:=g2 s hs; omega);have:=Nat.mul_le_mul_left 540 g1
  omega)
 have e2:=Zme (fun o:Tapi_Output=>60+o.2.length) 600 (l:=t.2.2.1) (fun o ho=>by have:=(h3 o ho).2; omega);have:=Nat.mul_le_mul_left 20000 h1;have:=Nat.mul_le_mul_left 600 h2;unfold ZaY;omega
theorem Zkv (h:Ye t=true):ZaY t≤1000000000000:=by
 classical
 unfold Ye at h;simp only[decide_eq_true_eq] at h;have:=ZrH h.1;omega
end
section
theorem ZyA {t:Tapi_Tx}{w:Bool}:(Xc t w).length≤ZaY t:=by
 have h1:=Zqw (t:=t) t.2.1.length
 have h2:(Xc t w).length≤(Zgg t t.2.1.length).length:=by
  cases w <;> simp[Xc,Zgg]
 omega
theorem Zsy {x:Tapi_Input}{i n:Nat}(hi:i<n) (hn:n≤64) (hw:x.2.2.length≤32):Zd (Ze4 x (i:Int)) 0=(if ∃ s∈x.2.2,520<s.length then some (.inr false) else some (.inl ((i+1:Nat):Int))):=by
 refine Zfd (step:=Ze4 x (i:Int)) (fun j=>(j:Int)) x.2.2 (fun s=>520<s.length) (some (.inr false)) (some (.inl ((i+1:Nat):Int))) (fun j hj hb=>?_) (fun j hj hb=>?_) ?_ rfl
 ·simp only[Ze4]
  rw[if_pos (by omega),Zi hj,if_neg (by omega),Zp hj (by omega)]
 ·simp only[Ze4]
  rw[if_pos (by omega),Zi hj,if_pos (by omega)];rfl
 ·simp only[Ze4]
  rw[if_neg (by omega)];simp only[ZgJ,Zp hi (by omega)]
theorem ZoS (t:Tapi_Tx):Zi8 t=some (Ye t):=by
 classical
 unfold Zi8 Ye;by_cases h0:64<t.2.1.length∨64<t.2.2.1.length
 ·rw[if_pos (by omega)]
  have:¬ Zku t:=fun h=>by have:=h.1; have:=h.2.1; omega
  simp[this]
 ·rw[if_neg (by omega)]
  have h1:=Zfd (step:=ZgL t) (fun i=>(i:Int)) t.2.2.1 (fun o=>o.1<0∨520<o.2.length) (some false) (Ze5 t) (fun i hi hb=>by
   simp only[ZgL];rw[if_pos (by omega),Zi hi,if_neg (by omega),Zp hi (by omega)]) (fun i hi hb=>by
   simp only[ZgL];rw[if_pos (by omega),Zi hi,if_pos (by omega)];rfl) (by
   simp only[ZgL]
   rw[if_neg (by omega)]) (s:=0) rfl
  rw[h1];by_cases hb1:∃ o∈t.2.2.1,o.1<0∨520<o.2.length
  ·rw[if_pos hb1]
   obtain⟨o,ho,hb⟩:=hb1;have:¬ Zku t:=fun h=>by have:=h.2.2.1 o ho; omega
   simp[this]
  ·rw[if_neg hb1]
   unfold Ze5
   have h2:=Zfd (step:=ZgK t) (fun i=>(i:Int)) t.2.1 (fun x=>32<x.2.2.length∨∃ s∈x.2.2,520<s.length) (some false) (Ze3 t) (fun i hi hb=>by
    have h3:¬ 32<(t.2.1[i]).2.2.length:=fun h=>hb (.inl h)
    have h4:¬ ∃ s∈(t.2.1[i]).2.2,520<s.length:=fun h=>hb (.inr h)
    simp only[ZgK];rw[if_pos (by omega),Zi hi,if_neg (by omega),Zsy hi (by omega) (by omega),if_neg h4]) (fun i hi hb=>by
    simp only[ZgK];rw[if_pos (by omega),Zi hi];by_cases h3:32<(t.2.1[i]).2.2.length
    ·rw[if_pos (by omega)]
     rfl
    ·rw[if_neg (by omega),Zsy hi (by omega) (by omega),if_pos (hb.resolve_left h3)]
     rfl) (by
    simp only[ZgK]
    rw[if_neg (by omega)]) (s:=0) rfl
   rw[h2];by_cases hb2:∃ x∈t.2.1,32<x.2.2.length∨∃ s∈x.2.2,520<s.length
   ·rw[if_pos hb2]
    obtain⟨x,hx,hb⟩:=hb2
    have:¬ Zku t:=fun h=>by
     obtain⟨g1,g2⟩:=h.2.2.2 x hx;rcases hb with hb | ⟨s,hs,hb⟩
     ·omega
     ·have:=g2 s hs; omega
    simp[this]
   ·rw[if_neg hb2]
    have hlim:Zku t:=by
     refine⟨by omega,by omega,fun o ho=>?_,fun x hx=>⟨?_,fun s hs=>?_⟩⟩
     ·have:¬ (o.1<0∨520<o.2.length):=fun h=>hb1 ⟨o,ho,h⟩
      omega
     ·have:¬ 32<x.2.2.length:=fun h=>hb2 ⟨x,hx,.inl h⟩
      omega
     ·have:¬ 520<s.length:=fun h=>hb2 ⟨x,hx,.inr ⟨s,hs,h⟩⟩
      omega
    unfold Ze3;rw[Zmx (by have:=ZrH hlim; omega),Za];have e:(((Xc t true).length:Int)≤20000)↔((Xc t true).length≤20000):=by omega
    simp[hlim,e]
theorem Zq4 {x:Tapi_Input}{i n:Nat}(hi:i<n) (hn:n≤64) (hw:x.2.2.length≤32):Zd (ZbZ x (i:Int)) 0=(if ∃ s∈x.2.2,520<s.length then some (.inr false) else some (.inl ((i+1:Nat):Int))):=by
 refine Zfd (step:=ZbZ x (i:Int)) (fun j=>(j:Int)) x.2.2 (fun s=>520<s.length) (some (.inr false)) (some (.inl ((i+1:Nat):Int))) (fun j hj hb=>?_) (fun j hj hb=>?_) ?_ rfl
 ·simp only[ZbZ]
  rw[if_pos (by omega),Zi hj,if_neg (by omega),Zp hj (by omega)]
 ·simp only[ZbZ]
  rw[if_pos (by omega),Zi hj,if_pos (by omega)];rfl
 ·simp only[ZbZ]
  rw[if_neg (by omega)];simp only[Zdx,Zp hi (by omega)]
theorem Zgh (t:Tapi_Tx):ZaE t=some (Ye t):=by
 classical
 unfold ZaE Ye;by_cases h0:64<t.2.1.length∨64<t.2.2.1.length
 ·rw[if_pos (by omega)]
  have:¬ Zku t:=fun h=>by have:=h.1; have:=h.2.1; omega
  simp[this]
 ·rw[if_neg (by omega)]
  have h1:=Zfd (step:=Zdz t) (fun i=>(i:Int)) t.2.2.1 (fun o=>o.1<0∨520<o.2.length) (some false) (Zb0 t) (fun i hi hb=>by
   simp only[Zdz];rw[if_pos (by omega),Zi hi,if_neg (by omega),Zp hi (by omega)]) (fun i hi hb=>by
   simp only[Zdz];rw[if_pos (by omega),Zi hi,if_pos (by omega)];rfl) (by
   simp only[Zdz]
   rw[if_neg (by omega)]) (s:=0) rfl
  rw[h1];by_cases hb1:∃ o∈t.2.2.1,o.1<0∨520<o.2.length
  ·rw[if_pos hb1]
   obtain⟨o,ho,hb⟩:=hb1;have:¬ Zku t:=fun h=>by have:=h.2.2.1 o ho; omega
   simp[this]
  ·rw[if_neg hb1]
   unfold Zb0
   have h2:=Zfd (step:=Zdy t) (fun i=>(i:Int)) t.2.1 (fun x=>32<x.2.2.length∨∃ s∈x.2.2,520<s.length) (some false) (ZbY t) (fun i hi hb=>by
    have h3:¬ 32<(t.2.1[i]).2.2.length:=fun h=>hb (.inl h)
    have h4:¬ ∃ s∈(t.2.1[i]).2.2,520<s.length:=fun h=>hb (.inr h)
    simp only[Zdy];rw[if_pos (by omega),Zi hi,if_neg (by omega),Zq4 hi (by omega) (by omega),if_neg h4]) (fun i hi hb=>by
    simp only[Zdy];rw[if_pos (by omega),Zi hi];by_cases h3:32<(t.2.1[i]).2.2.length
    ·rw[if_pos (by omega)]
     rfl
    ·rw[if_neg (by omega),Zq4 hi (by omega) (by omega),if_pos (hb.resolve_left h3)]
     rfl) (by
    simp only[Zdy]
    rw[if_neg (by omega)]) (s:=0) rfl
   rw[h2];by_cases hb2:∃ x∈t.2.1,32<x.2.2.length∨∃ s∈x.2.2,520<s.length
   ·rw[if_pos hb2]
    obtain⟨x,hx,hb⟩:=hb2
    have:¬ Zku t:=fun h=>by
     obtain⟨g1,g2⟩:=h.2.2.2 x hx;rcases hb with hb | ⟨s,hs,hb⟩
     ·omega
     ·have:=g2 s hs; omega
    simp[this]
   ·rw[if_neg hb2]
    have hlim:Zku t:=by
     refine⟨by omega,by omega,fun o ho=>?_,fun x hx=>⟨?_,fun s hs=>?_⟩⟩
     ·have:¬ (o.1<0∨520<o.2.length):=fun h=>hb1 ⟨o,ho,h⟩
      omega
     ·have:¬ 32<x.2.2.length:=fun h=>hb2 ⟨x,hx,.inl h⟩
      omega
     ·have:¬ 520<s.length:=fun h=>hb2 ⟨x,hx,.inr ⟨s,hs,h⟩⟩
      omega
    unfold ZbY;rw[ZlB (by have:=ZrH hlim; omega),Za];have e:(((Xc t true).length:Int)≤20000)↔((Xc t true).length≤20000):=by omega
    simp[hlim,e]
end
def Nx {σ ρ:Type}(I:Nat→σ→Prop) (Q:ρ→Prop) (n:Nat):σ ⊕ ρ→Prop
 | .inl s=>∃ j,j<n∧I j s
 | .inr r=>Q r
theorem ZJ {σ ρ:Type}{step:σ→Option (σ ⊕ ρ)}{I:Nat→σ→Prop}{Q:ρ→Prop}(h:∀ n s,I n s→Tot (step s) (Nx I Q n)){n:Nat}{s:σ}(hs:I n s):Tot (Zd step s) Q:=by
 refine Xe I Q (fun i s hi=>?_) n s hs;obtain⟨x,h1,h2⟩:=h i s hi;cases x with
 | inl s' =>
  obtain⟨j,hj,h3⟩:=h2;exact .inl ⟨j,s',hj,h1,h3⟩
 | inr r=>exact .inr ⟨r,h1,h2⟩
theorem Tot.out {σ ρ:Type}{I:Nat→σ→Prop}{Q:ρ→Prop}{n:Nat}{x:Option ρ}(h:Tot x Q):Tot (x.map .inr) (Nx I Q n):=by
 obtain⟨r,rfl,h⟩:=h;exact⟨_,rfl,h⟩
theorem Zv {α:Type}{p:Prop}[Decidable p]{f:Unit→Option α}{Q:α→Prop}(hp:p) (h:Tot (f ()) Q):Tot ((chk p).bind f) Q:=by rw[Zj hp]; exact h
theorem XV {α β:Type}{l:List α}{i:Int}{f:α→Option β}{Q:β→Prop}(h0:0≤i) (h1:i<l.length) (h:∀ x∈l,Tot (f x) Q):Tot ((idx l i).bind f) Q:=by
 obtain⟨n,rfl⟩:=Int.eq_ofNat_of_zero_le h0;rw[Zi (by omega)];exact h _ (List.getElem_mem _)
theorem YU {β:Type}{n:Nat}{i:Int}{f:Nat→Option β}{Q:β→Prop}(h0:0≤i) (h1:i<n) (h:∀ j:Nat,(j:Int)=i→j<n→Tot (f j) Q):Tot ((inA n i).bind f) Q:=by
 obtain⟨m,rfl⟩:=Int.eq_ofNat_of_zero_le h0;rw[YE (by omega)];exact h _ rfl (by omega)
theorem ZcV {α β:Type}{l:List α}{i:Nat}{f:α→Option β}{Q:β→Prop}(h1:i<l.length) (h:∀ x,l[i]? = some x→Tot (f x) Q):Tot ((l[i]?).bind f) Q:=by
 rw[ZhF h1];exact h _ (List.getElem?_eq_getElem h1)
theorem ZuN {α β:Type}{l:List α}(f:β→α→β) (b:β){i:Nat}(h:i<l.length):(l.take (i+1)).foldl f b=f ((l.take i).foldl f b) l[i]:=by
 rw[List.take_succ_eq_append_getElem h,List.foldl_append];rfl
theorem Zbw {σ ρ:Type}{step:σ→Option (σ ⊕ ρ)}(enc:Nat→σ) (n:Nat) (bad:Nat→Prop) (rb x:Option ρ) [inst:Decidable (∃ i,i<n∧bad i)] (h:∀ i,i<n→(∀ j,j<i→¬ bad j)→¬ bad i→step (enc i)=some (.inl (enc (i+1)))) (hb:∀ i,i<n→(∀ j,j<i→¬ bad j)→bad i→step (enc i)=rb.map .inr) (he:(∀ j,j<n→¬ bad j)→step (enc n)=x.map .inr){s:σ}(hs:s=enc 0):Zd step s=if ∃ i,i<n∧bad i then rb else x:=by
 subst hs;by_cases hx:∃ i,i<n∧bad i
 ·rw[if_pos hx]
  obtain⟨m,hm,hbm,hmin⟩:=Zq0 bad n hx;exact ZQ enc m (fun i hi=>h i (by omega) (fun j hj=>hmin j (by omega)) (hmin i hi)) (hb m hm hmin hbm)
 ·rw[if_neg hx]
  have hn:∀ i,i<n→¬ bad i:=fun i hi hbi=>hx ⟨i,hi,hbi⟩
  exact ZQ enc n (fun i hi=>h i hi (fun j hj=>hn j (by omega)) (hn i hi)) (he hn)
def sumI:List Int→Int
 | []=>0
 | a :: l=>a+sumI l
theorem Zsz (l m:List Int):sumI (l++m)=sumI l+sumI m:=by
 induction l with
 | nil=>simp[sumI]
 | cons a l ih=>simp only[List.cons_append,sumI,ih]; omega
theorem Zdu {l:List Int}{i:Nat}(h:i<l.length):sumI (l.take (i+1))=sumI (l.take i)+l[i]:=by
 rw[List.take_succ_eq_append_getElem h,Zsz];simp[sumI]
theorem Zjh {l:List Int}(h:∀ v∈l,0≤v):0≤sumI l:=by
 induction l with
 | nil=>simp[sumI]
 | cons a l ih =>
  have h1:=h a (by simp);have h2:=ih fun v hv=>h v (by simp[hv])
  simp only[sumI];omega
theorem Zot {l:List Int}(h:∀ v∈l,0≤v) (i:Nat):sumI (l.take i)≤sumI l:=by
 have h1:sumI l=sumI (l.take i)+sumI (l.drop i):=by rw[← Zsz,List.take_append_drop]
 have h2:=Zjh (l:=l.drop i) fun v hv=>h v (List.mem_of_mem_drop hv)
 omega
theorem ZtL {l:List Int}{c:Int}(h:∀ v∈l,v≤c):sumI l≤l.length * c:=by
 induction l with
 | nil=>simp[sumI]
 | cons a l ih =>
  have h1:=h a (by simp);have h2:=ih fun v hv=>h v (by simp[hv])
  simp only[sumI,List.length_cons];have:((l.length+1:Nat):Int) * c=(l.length:Int) * c+c:=by rw[Int.natCast_add,Int.add_mul]; simp
  omega
theorem ZoT (vs:List Int) (M:Int) (hM:0≤M):(∃ i,i<vs.length∧∃ h:i<vs.length,vs[i]<0∨M<sumI (vs.take (i+1)))↔(∃ v∈vs,v<0∨M<v)∨M<sumI vs:=by
 by_cases hneg:∃ v∈vs,v<0
 ·obtain⟨v,hv,hv0⟩:=hneg
  obtain⟨i,hi,rfl⟩:=List.getElem_of_mem hv;exact⟨fun _=>.inl ⟨_,hv,.inl hv0⟩,fun _=>⟨i,hi,hi,.inl hv0⟩⟩
 ·have hp:∀ v∈vs,0≤v:=fun v hv=>by
   have:¬ v<0:=fun h=>hneg ⟨v,hv,h⟩
   omega
  constructor
  ·rintro⟨i,_,hi,hb⟩
   have h1:=hp _ (List.getElem_mem hi);have h2:=Zot hp (i+1);exact .inr (by omega)
  ·intro h
   have key:M<sumI vs→∃ i,i<vs.length∧∃ h:i<vs.length,vs[i]<0∨M<sumI (vs.take (i+1)):=by
    intro hs
    have hn:0<vs.length:=by
     rcases Nat.eq_zero_or_pos vs.length with h0 | h0
     ·have:=List.length_eq_zero_iff.1 h0
      subst this;simp only[sumI] at hs;omega
     ·exact h0
    refine⟨vs.length-1,by omega,by omega,.inr ?_⟩;rw[show vs.length-1+1=vs.length by omega,List.take_length];exact hs
   rcases h with ⟨v,hv,hb⟩ | hs
   ·have h0:=hp v hv
    obtain⟨i,hi,rfl⟩:=List.getElem_of_mem hv;refine⟨i,hi,hi,.inr ?_⟩;rw[Zdu hi];have:=Zjh (l:=vs.take i) fun v hv=>hp v (List.mem_of_mem_take hv)
    omega
   ·exact key hs
theorem Zq5 {K V:Type}[DecidableEq K] (k a:K) (v:V) (l:List (K×V)):XY k (ZbU a v l)=if k=a then some v else XY k l:=by
 induction l with
 | nil=>simp[ZbU,XY]
 | cons x l ih =>
  obtain⟨b,w⟩:=x;simp only[ZbU];by_cases h:a=b
  ·subst h
   rw[if_pos rfl];simp only[XY];by_cases hk:k=a <;> simp[hk]
  ·rw[if_neg h]
   simp only[XY,ih];by_cases hk:k=b
   ·subst hk
    simp[Ne.symm h]
   ·simp[hk]
def ZmH (l:List Tapi_OutPoint):List (Tapi_OutPoint×Bool):=l.foldl (fun m p=>ZbU p true m) []
theorem Zkw (k:Tapi_OutPoint) (l:List Tapi_OutPoint):((XY k (ZmH l)).getD false=true)↔k∈l:=by
 have key:∀ (l:List Tapi_OutPoint) (m:List (Tapi_OutPoint×Bool)),((XY k (l.foldl (fun m p=>ZbU p true m) m)).getD false=true)↔(k∈l∨(XY k m).getD false=true):=by
  intro l;induction l with
  | nil=>intro m; simp
  | cons a l ih =>
   intro m;rw[List.foldl_cons,ih,Zq5];by_cases h:k=a
   ·simp[h]
   ·simp[h]
 have:=key l [];simpa[ZmH,XY] using this
theorem ZvX {l:List Tapi_OutPoint}{i:Nat}(h:i<l.length):ZmH (l.take (i+1))=ZbU l[i] true (ZmH (l.take i)):=by
 unfold ZmH;rw[List.take_succ_eq_append_getElem h,List.foldl_append];rfl
abbrev nullP:Tapi_OutPoint:=(zA 32,4294967295)
def cbS (t:Tapi_Tx):Bool:=match t.2.1 with
 | [x]=>decide (x.1=nullP)
 | _=>false
theorem ZrI (t:Tapi_Tx):Zcu t=some (cbS t):=by
 obtain⟨a,ins,outs,l⟩:=t;unfold Zcu Zl8 cbS
 match ins with
 | []=>simp
 | [x]=>simp[Prod.ext_iff]
 | x :: y :: l =>
  have:¬ ((x :: y :: l).length:Int)=1:=by simp only[List.length_cons]; omega
  dsimp only;simp only[if_neg this,decide_eq_false this];rfl
theorem Zmf (t:Tapi_Tx):XJ t=some (cbS t):=by
 rw[← ZrI];rfl
def Yb (t:Tapi_Tx):List Int:=t.2.2.1.map Prod.fst
def ZD (t:Tapi_Tx):List Tapi_OutPoint:=t.2.1.map Prod.fst
def ZuO (l:List Tapi_OutPoint):Prop:=∃ i,i<l.length∧∃ h:i<l.length,l[i]∈l.take i
noncomputable def ZiO (t:Tapi_Tx):Int:=by
 classical exact if ¬ Ye t=true then 4 else if t.2.1.length=0∨t.2.2.1.length=0 then 93 else if (2100000000000000:Int)<sumI (Yb t) then 90 else if ZuO (ZD t) then 91 else if nullP∈ZD t∧¬ cbS t=true then 92 else 0
theorem Zji {t:Tapi_Tx}(h:Ye t=true):Zku t:=by
 classical
 unfold Ye at h;simp only[decide_eq_true_eq] at h;exact h.1
section
variable {t:Tapi_Tx}
theorem ZsA (h:Zku t):∀ v∈Yb t,0≤v:=by
 intro v hv;obtain⟨o,ho,rfl⟩:=List.mem_map.1 hv;exact(h.2.2.1 o ho).1
theorem Zxl (h:Zku t):Zjo t.2.2.1=some (decide (¬ (2100000000000000:Int)<sumI (Yb t))):=by
 classical
 have hp:=ZsA h;have hl:(Yb t).length=t.2.2.1.length:=by simp[Yb]
 have hget:∀ i (h1:i<t.2.2.1.length),(Yb t)[i]'(by omega)=(t.2.2.1[i]).1:=by intro i h1; simp[Yb]
 unfold Zjo;have h64:=h.2.1
 have hbnd:∀ i,(∀ j,j<i→¬ ∃ h:j<(Yb t).length,(Yb t)[j]<0∨(2100000000000000:Int)<sumI ((Yb t).take (j+1)))→i≤(Yb t).length→0≤sumI ((Yb t).take i)∧sumI ((Yb t).take i)≤(2100000000000000:Int):=by
  intro i hj hi;refine⟨Zjh fun v hv=>hp v (List.mem_of_mem_take hv),?_⟩;cases i with
  | zero=>simp[sumI]
  | succ i =>
   have:=hj i (by omega);have h2:¬ (2100000000000000:Int)<sumI ((Yb t).take (i+1)):=fun h=>this ⟨by omega,.inr h⟩
   omega
 rw[Zbw (s:=(0,0)) (step:=Zfp t.2.2.1) (fun i=>(sumI ((Yb t).take i),(i:Int))) (Yb t).length (fun i=>∃ h:i<(Yb t).length,(Yb t)[i]<0∨(2100000000000000:Int)<sumI ((Yb t).take (i+1))) (some false) (some true) ?_ ?_ ?_ rfl]
 ·by_cases hs:(2100000000000000:Int)<sumI (Yb t)
  ·rw[if_pos ((ZoT _ _ (by decide)).2 (.inr hs))]
   simp[hs]
  ·rw[if_neg]
   ·simp[hs]
   ·intro hb
    rcases(ZoT _ _ (by decide)).1 hb with ⟨v,hv,hb⟩ | hb
    ·have h0:=hp v hv
     have:=(ZoT (Yb t) (2100000000000000:Int) (by decide)).2 (.inl ⟨v,hv,hb⟩);obtain⟨i,_,hi,hb'⟩:=this;have h1:=hp _ (List.getElem_mem hi);have h2:=Zot hp (i+1);omega
    ·exact hs hb
 ·intro i hi hj hb
  have hb0:=hbnd i hj (by omega);have hb1:¬ (2100000000000000:Int)<sumI ((Yb t).take (i+1)):=fun h=>hb ⟨hi,.inr h⟩
  have h0:=hp _ (List.getElem_mem hi);have hg:=hget i (by omega);rw[Zdu hi] at hb1;simp only[Zfp];rw[if_pos (by omega),Zi (by omega),wi _ (by omega),if_neg (by omega),wi _ (by omega),Zp hi (by omega),Zdu hi,hg]
 ·intro i hi hj hb
  have hb0:=hbnd i hj (by omega);obtain⟨_,hb⟩:=hb;have h0:=hp _ (List.getElem_mem hi);have hg:=hget i (by omega);rw[Zdu hi] at hb;simp only[Zfp];rw[if_pos (by omega),Zi (by omega),wi _ (by omega),if_pos (by omega)];rfl
 ·intro hj
  simp only[Zfp];rw[if_neg (by omega)];rfl
theorem pts_len:(ZD t).length=t.2.1.length:=by simp[ZD]
theorem Zg1 {i:Nat}(h1:i<t.2.1.length) (h2:i<(ZD t).length):(ZD t)[i]=(t.2.1[i]).1:=by simp[ZD]
theorem ZsB (t:Tapi_Tx):Zhq t=some (ZiO t):=by
 classical
 unfold Zhq ZiO;rw[ZoS,Za];by_cases hf:Ye t=true
 ·have hlim:=Zji hf
  have h64:=hlim.1;have hnf:¬ ¬ Ye t=true:=by simp[hf]
  rw[if_neg hnf,if_neg hnf];by_cases h0:t.2.1.length=0∨t.2.2.1.length=0
  ·rw[if_pos (show(t.2.1.length:Int)=0∨(t.2.2.1.length:Int)=0 by omega),if_pos h0]
  ·rw[if_neg (show ¬ ((t.2.1.length:Int)=0∨(t.2.2.1.length:Int)=0) by omega),if_neg h0,Zxl hlim,Za]
   by_cases hs:(2100000000000000:Int)<sumI (Yb t)
   ·rw[if_pos (by simp[hs]),if_pos hs]
   ·rw[if_neg (by simp[hs]),if_neg hs]
    have hl:=pts_len (t:=t);rw[Zbw (s:=(0,[])) (step:=Zfq t) (fun i=>((i:Int),ZmH ((ZD t).take i))) (ZD t).length (fun i=>∃ h:i<(ZD t).length,(ZD t)[i]∈(ZD t).take i) (some 91) (some (if nullP∈ZD t∧¬ cbS t=true then 92 else 0)) ?_ ?_ ?_ rfl]
    ·by_cases hd:ZuO (ZD t)
     ·rw[if_pos (show ∃ i,i<(ZD t).length∧∃ h:i<(ZD t).length,(ZD t)[i]∈(ZD t).take i from hd),if_pos hd]
     ·rw[if_neg (show ¬ ∃ i,i<(ZD t).length∧∃ h:i<(ZD t).length,(ZD t)[i]∈(ZD t).take i from hd),if_neg hd]
    ·intro i hi _ hb
     have hg:=Zg1 (t:=t) (by omega) hi;simp only[Zfq];rw[if_pos (by omega),Zi (by omega),if_neg,Zp hi (by omega),ZvX hi,hg];rw[← hg,Zkw];exact fun h=>hb ⟨hi,h⟩
    ·intro i hi _ hb
     have hg:=Zg1 (t:=t) (by omega) hi;simp only[Zfq];rw[if_pos (by omega),Zi (by omega),if_pos]
     ·rfl
     ·rw[← hg,Zkw]
      exact hb.2
    ·intro _
     simp only[Zfq];rw[if_neg (by omega),List.take_length];unfold ZjE;rw[ZrI];by_cases hn:nullP∈ZD t
     ·have hn' := (Zkw _ _).2 hn
      rw[if_pos hn'];cases hc:cbS t <;> simp[hn,hn']
     ·have hn':¬ _:=fun h=>hn ((Zkw nullP (ZD t)).1 h)
      rw[if_neg hn'];simp[hn,hn']
 ·rw[if_pos hf,if_pos hf]
theorem ZtM {i:Nat}(hi:i<t.2.1.length) (h64:t.2.1.length≤64):(Zd (Zbh (i:Int) t) 0)=(by classical exact if ∃ h:i<(ZD t).length,(ZD t)[i]∈(ZD t).take i then some (.inr 91) else some (.inl ((i+1:Nat):Int))):=by
 classical
 have hl:=pts_len (t:=t);have hgi:=Zg1 hi (by omega);rw[Zbw (s:=0) (step:=Zbh (i:Int) t) (fun j=>(j:Int)) i (fun j=>∃ h:j<(ZD t).length,(ZD t)[i]'(by omega)=(ZD t)[j]) (some (.inr 91)) (some (.inl ((i+1:Nat):Int))) ?_ ?_ ?_ rfl]
 ·have e:(∃ j,j<i∧∃ h:j<(ZD t).length,(ZD t)[i]'(by omega)=(ZD t)[j])↔∃ h:i<(ZD t).length,(ZD t)[i]∈(ZD t).take i:=by
   constructor
   ·rintro⟨j,hj,hj2,e⟩
    refine⟨by omega,?_⟩;rw[e];exact List.mem_take_iff_getElem.2 ⟨j,by omega,rfl⟩
   ·rintro⟨h,hm⟩
    obtain⟨j,hj,e⟩:=List.mem_take_iff_getElem.1 hm;exact⟨j,by omega,by omega,e.symm⟩
  simp only[e]
 ·intro j hj _ hb
  have hgj:=Zg1 (t:=t) (i:=j) (by omega) (by omega);simp only[Zbh];rw[if_pos (by omega),Zi (by omega),Zi (by omega),if_neg,Zp hj (by omega)];intro h;exact hb ⟨by omega,by rw[hgi,hgj]; exact Prod.ext h.1 h.2⟩
 ·intro j hj _ hb
  have hgj:=Zg1 (t:=t) (i:=j) (by omega) (by omega);obtain⟨_,hb⟩:=hb;rw[hgi,hgj] at hb;simp only[Zbh];rw[if_pos (by omega),Zi (by omega),Zi (by omega),if_pos ⟨congrArg Prod.fst hb,congrArg Prod.snd hb⟩];rfl
 ·intro _
  simp only[Zbh];rw[if_neg (by omega)];simp only[Zbg,Zp hi (by omega)]
theorem Zxm (h64:t.2.1.length≤64):Zau t=(by classical exact some (if nullP∈ZD t∧¬ cbS t=true then 92 else 0)):=by
 classical
 unfold Zau;have hl:=pts_len (t:=t);rw[Zbw (s:=0) (step:=ZcG t) (fun j=>(j:Int)) (ZD t).length (fun j=>∃ h:j<(ZD t).length,(ZD t)[j]=nullP∧¬ cbS t=true) (some 92) (some 0) ?_ ?_ ?_ rfl]
 ·have e:(∃ j,j<(ZD t).length∧∃ h:j<(ZD t).length,(ZD t)[j]=nullP∧¬ cbS t=true)↔nullP∈ZD t∧¬ cbS t=true:=by
   constructor
   ·rintro⟨j,_,hj,e,hc⟩
    exact⟨e ▸ List.getElem_mem hj,hc⟩
   ·rintro⟨hm,hc⟩
    obtain⟨j,hj,e⟩:=List.getElem_of_mem hm;exact⟨j,hj,hj,e,hc⟩
  simp only[e];split <;> rfl
 ·intro i hi _ hb
  have hg:=Zg1 (t:=t) (by omega) hi;simp only[ZcG];rw[if_pos (by omega),Zi (by omega),Zmf];unfold Ze6;rw[Za];by_cases hn:(t.2.1[i]'(by omega)).1=nullP
  ·have hc:cbS t=true:=Decidable.byContradiction fun h=>hb ⟨hi,by rw[hg,hn],h⟩
   rw[hn];simp[hc,Zp hi (show(ZD t).length≤9223372036854775807 by omega)]
  ·have hn':¬ ((decide ((t.2.1[i]'(by omega)).1.1=zA 32) && decide ((t.2.1[i]'(by omega)).1.2=4294967295))=true):=by
    simp only[Bool.and_eq_true,decide_eq_true_eq];exact fun h=>hn (Prod.ext h.1 h.2)
   rw[if_neg hn',Za,if_neg (fun h=>hn' h.1),Zp hi (by omega)]
 ·intro i hi _ hb
  have hg:=Zg1 (t:=t) (by omega) hi;obtain⟨_,hb,hc⟩:=hb;rw[hg] at hb;simp only[ZcG];rw[if_pos (by omega),Zi (by omega),Zmf];unfold Ze6;rw[Za,hb];simp[hc]
 ·intro _
  simp only[ZcG];rw[if_neg (by omega)];rfl
theorem Zou (t:Tapi_Tx):ZdS t=some (ZiO t):=by
 classical
 unfold ZdS ZiO;rw[Zgh,Za];by_cases hf:Ye t=true
 ·have hlim:=Zji hf
  have h64:=hlim.1;have h65:=hlim.2.1;have hp:=ZsA hlim;have hnf:¬ ¬ Ye t=true:=by simp[hf]
  rw[if_neg hnf,if_neg hnf];by_cases h0:t.2.1.length=0∨t.2.2.1.length=0
  ·rw[if_pos (show(t.2.1.length:Int)=0∨(t.2.2.1.length:Int)=0 by omega),if_pos h0]
  ·rw[if_neg (show ¬ ((t.2.1.length:Int)=0∨(t.2.2.1.length:Int)=0) by omega),if_neg h0]
   have hl:(Yb t).length=t.2.2.1.length:=by simp[Yb]
   have hget:∀ i (h1:i<t.2.2.1.length),(Yb t)[i]'(by omega)=(t.2.2.1[i]).1:=by intro i h1; simp[Yb]
   have hk1:XK (sumI (Yb t)) t=some (if (2100000000000000:Int)<sumI (Yb t) then 90 else if ZuO (ZD t) then 91 else if nullP∈ZD t∧¬ cbS t=true then 92 else 0):=by
    unfold XK;by_cases hs:(2100000000000000:Int)<sumI (Yb t)
    ·rw[if_pos hs,if_pos hs]
    ·rw[if_neg hs,if_neg hs]
     have hl:=pts_len (t:=t);rw[Zbw (s:=0) (step:=ZcH t) (fun i=>(i:Int)) (ZD t).length (fun i=>∃ h:i<(ZD t).length,(ZD t)[i]∈(ZD t).take i) (some 91) (some (if nullP∈ZD t∧¬ cbS t=true then 92 else 0)) ?_ ?_ ?_ rfl]
     ·by_cases hd:ZuO (ZD t)
      ·rw[if_pos (show ∃ i,i<(ZD t).length∧∃ h:i<(ZD t).length,(ZD t)[i]∈(ZD t).take i from hd),if_pos hd]
      ·rw[if_neg (show ¬ ∃ i,i<(ZD t).length∧∃ h:i<(ZD t).length,(ZD t)[i]∈(ZD t).take i from hd),if_neg hd]
     ·intro i hi _ hb
      simp only[ZcH];rw[if_pos (by omega),ZtM (by omega) h64,if_neg hb]
     ·intro i hi _ hb
      simp only[ZcH];rw[if_pos (by omega),ZtM (by omega) h64,if_pos hb];rfl
     ·intro _
      simp only[ZcH];rw[if_neg (by omega),Zxm h64]
   have hbnd:∀ i,(∀ j,j<i→¬ ∃ h:j<(Yb t).length,(2100000000000000:Int)<(Yb t)[j])→i≤(Yb t).length→0≤sumI ((Yb t).take i)∧sumI ((Yb t).take i)≤i * (2100000000000000:Int):=by
    intro i hj hi;refine⟨Zjh fun v hv=>hp v (List.mem_of_mem_take hv),?_⟩
    have:=ZtL (l:=(Yb t).take i) (c:=(2100000000000000:Int)) (fun v hv=>by
     obtain⟨j,hj2,rfl⟩:=List.mem_take_iff_getElem.1 hv;have h1:¬ (2100000000000000:Int)<(Yb t)[j]:=fun h=>hj j (by omega) ⟨by omega,h⟩
     omega)
    rw[List.length_take,Nat.min_eq_left hi] at this;exact this
   rw[Zbw (s:=(0,0)) (step:=ZcI t) (fun i=>(sumI ((Yb t).take i),(i:Int))) (Yb t).length (fun i=>∃ h:i<(Yb t).length,(2100000000000000:Int)<(Yb t)[i]) (some 90) (XK (sumI (Yb t)) t) ?_ ?_ ?_ rfl]
   ·rw[hk1]
    by_cases hx:∃ i,i<(Yb t).length∧∃ h:i<(Yb t).length,(2100000000000000:Int)<(Yb t)[i]
    ·rw[if_pos hx]
     obtain⟨i,_,hi,hb⟩:=hx;have h1:=Zot hp (i+1);rw[Zdu hi] at h1;have h2:=Zjh (l:=(Yb t).take i) fun v hv=>hp v (List.mem_of_mem_take hv)
     rw[if_pos (by omega)]
    ·rw[if_neg hx]
   ·intro i hi hj hb
    have hb0:=hbnd i hj (by omega);have hb1:¬ (2100000000000000:Int)<(Yb t)[i]:=fun h=>hb ⟨hi,h⟩
    have h0:=hp _ (List.getElem_mem hi);have hg:=hget i (by omega);have hi64:(i:Int)≤64:=by omega
    simp only[ZcI];rw[if_pos (by omega),Zi (by omega),if_neg (by omega),wi _ (by omega),Zp hi (by omega),Zdu hi,hg]
   ·intro i hi hj hb
    obtain⟨_,hb⟩:=hb;have hg:=hget i (by omega);simp only[ZcI];rw[if_pos (by omega),Zi (by omega),if_pos (by omega)];rfl
   ·intro _
    simp only[ZcI];rw[if_neg (by omega),List.take_length]
 ·rw[if_pos hf,if_pos hf]
end
theorem Zzu {t:Tapi_Tx}(h:ZiO t=0):t.2.1.length≤64∧t.2.2.1.length≤64:=by
 classical
 unfold ZiO at h;by_cases hf:Ye t=true
 ·have:=Zji hf
  exact⟨this.1,this.2.1⟩
 ·rw[if_pos hf] at h
  omega
def ZR (l:List Tapi_Coin):List Int:=l.map fun c=>c.2.1.1
def Zmg (vs:List Int):Prop:=(∃ v∈vs,v<0∨(2100000000000000:Int)<v)∨(2100000000000000:Int)<sumI vs
section
variable {l:List Tapi_Coin}
theorem Zp4 {i:Nat}(h1:i<l.length) (h2:i<(ZR l).length):(ZR l)[i]=(l[i]).2.1.1:=by simp[ZR]
theorem ZvY (h64:l.length≤64):ZnC l=(by classical exact if Zmg (ZR l) then some (0,false) else some (sumI (ZR l),true)):=by
 classical
 have hl:(ZR l).length=l.length:=by simp[ZR]
 have hbnd:∀ i,(∀ j,j<i→¬ ∃ h:j<(ZR l).length,(ZR l)[j]<0∨(2100000000000000:Int)<sumI ((ZR l).take (j+1)))→i≤(ZR l).length→0≤sumI ((ZR l).take i)∧sumI ((ZR l).take i)≤(2100000000000000:Int):=by
  intro i hj hi;refine⟨Zjh fun v hv=>?_,?_⟩
  ·obtain⟨j,hj2,rfl⟩:=List.mem_take_iff_getElem.1 hv
   have h1:¬ (ZR l)[j]<0:=fun h=>hj j (by omega) ⟨by omega,.inl h⟩
   omega
  ·cases i with
   | zero=>simp[sumI]
   | succ i =>
    have h2:¬ (2100000000000000:Int)<sumI ((ZR l).take (i+1)):=fun h=>hj i (by omega) ⟨by omega,.inr h⟩
    omega
 unfold ZnC;rw[Zbw (s:=(0,0)) (step:=Zgp l) (fun i=>(sumI ((ZR l).take i),(i:Int))) (ZR l).length (fun i=>∃ h:i<(ZR l).length,(ZR l)[i]<0∨(2100000000000000:Int)<sumI ((ZR l).take (i+1))) (some (0,false)) (some (sumI (ZR l),true)) ?_ ?_ ?_ rfl]
 ·simp only[ZoT (ZR l) (2100000000000000:Int) (by decide)]
  by_cases hs:Zmg (ZR l)
  ·rw[if_pos (show(∃ v∈ZR l,v<0∨(2100000000000000:Int)<v)∨(2100000000000000:Int)<sumI (ZR l) from hs),if_pos hs]
  ·rw[if_neg (show ¬ ((∃ v∈ZR l,v<0∨(2100000000000000:Int)<v)∨(2100000000000000:Int)<sumI (ZR l)) from hs),if_neg hs]
 ·intro i hi hj hb
  have hb0:=hbnd i hj (by omega);have hb1:¬ (2100000000000000:Int)<sumI ((ZR l).take (i+1)):=fun h=>hb ⟨hi,.inr h⟩
  have h0:¬ (ZR l)[i]<0:=fun h=>hb ⟨hi,.inl h⟩
  have hg:=Zp4 (l:=l) (by omega) hi;rw[Zdu hi] at hb1;simp only[Zgp];rw[if_pos (by omega),Zi (by omega),wi (2100000000000000-_) (by omega),if_neg (by omega),wi _ (by omega),Zp hi (by omega),Zdu hi,hg]
 ·intro i hi hj hb
  have hb0:=hbnd i hj (by omega);obtain⟨_,hb⟩:=hb;have hg:=Zp4 (l:=l) (by omega) hi;rw[Zdu hi] at hb;simp only[Zgp];rw[if_pos (by omega),Zi (by omega),wi _ (by omega),if_pos (by omega)];rfl
 ·intro hj
  simp only[Zgp];rw[if_neg (by omega),List.take_length];rfl
theorem ZyB {t:Tapi_Tx}(h64:l.length≤64):ZbI l t=(by classical exact if Zmg (ZR l) then some (0,90) else Zd (ZaJ t) (sumI (ZR l),0)):=by
 classical
 have hl:(ZR l).length=l.length:=by simp[ZR]
 have hbnd:∀ i,(∀ j,j<i→¬ ∃ h:j<(ZR l).length,(ZR l)[j]<0∨(2100000000000000:Int)<(ZR l)[j])→i≤(ZR l).length→0≤sumI ((ZR l).take i)∧sumI ((ZR l).take i)≤i * (2100000000000000:Int):=by
  intro i hj hi
  have hp:∀ v∈(ZR l).take i,0≤v∧v≤(2100000000000000:Int):=fun v hv=>by
   obtain⟨j,hj2,rfl⟩:=List.mem_take_iff_getElem.1 hv;have h1:¬ (ZR l)[j]<0:=fun h=>hj j (by omega) ⟨by omega,.inl h⟩
   have h2:¬ (2100000000000000:Int)<(ZR l)[j]:=fun h=>hj j (by omega) ⟨by omega,.inr h⟩
   omega
  refine⟨Zjh fun v hv=>(hp v hv).1,?_⟩;have:=ZtL (l:=(ZR l).take i) (c:=(2100000000000000:Int)) (fun v hv=>(hp v hv).2);rw[List.length_take,Nat.min_eq_left hi] at this;exact this
 unfold ZbI;rw[Zbw (s:=(0,0)) (step:=Zem l t) (fun i=>(sumI ((ZR l).take i),(i:Int))) (ZR l).length (fun i=>∃ h:i<(ZR l).length,(ZR l)[i]<0∨(2100000000000000:Int)<(ZR l)[i]) (some (0,90)) (Zc2 (sumI (ZR l)) t) ?_ ?_ ?_ rfl]
 ·by_cases hx:∃ i,i<(ZR l).length∧∃ h:i<(ZR l).length,(ZR l)[i]<0∨(2100000000000000:Int)<(ZR l)[i]
  ·have hs:Zmg (ZR l):=by
    obtain⟨i,_,hi,hb⟩:=hx;exact .inl ⟨_,List.getElem_mem hi,hb⟩
   rw[if_pos hx,if_pos hs]
  ·rw[if_neg hx]
   unfold Zc2;by_cases hs:(2100000000000000:Int)<sumI (ZR l)
   ·have hs':Zmg (ZR l):=.inr hs
    rw[if_pos hs,if_pos hs']
   ·have hs':¬ Zmg (ZR l):=by
     rintro(⟨v,hv,hb⟩ | h)
     ·obtain⟨i,hi,rfl⟩:=List.getElem_of_mem hv
      exact hx ⟨i,hi,hi,hb⟩
     ·exact hs h
    rw[if_neg hs,if_neg hs']
 ·intro i hi hj hb
  have hb0:=hbnd i hj (by omega);have hb1:¬ ((ZR l)[i]<0∨(2100000000000000:Int)<(ZR l)[i]):=fun h=>hb ⟨hi,h⟩
  have hg:=Zp4 (l:=l) (by omega) hi;have hi64:(i:Int)≤64:=by omega
  simp only[Zem];rw[if_pos (by omega),Zi (by omega),if_neg (by omega),wi _ (by omega),Zp hi (by omega),Zdu hi,hg]
 ·intro i hi hj hb
  obtain⟨_,hb⟩:=hb;have hg:=Zp4 (l:=l) (by omega) hi;simp only[Zem];rw[if_pos (by omega),Zi (by omega),if_pos (by omega)];rfl
 ·intro _
  simp only[Zem];rw[if_neg (by omega),List.take_length]
end
theorem ZyC (t:Tapi_Tx):ZnQ t=ZaJ t:=by
 funext ⟨a,b⟩
 rfl
def ZsC (n:Int) (l:List Tapi_Output):Int:=l.foldl (fun n x=>IntKind.i64.wrap (n-x.1)) n
theorem Zxn {t:Tapi_Tx}(h:t.2.2.1.length≤64) (n:Int):∃ r,Zd (ZaJ t) (n,0)=some r:=by
 have:=ZQ (step:=ZaJ t) (fun i=>(ZsC n (t.2.2.1.take i),(i:Int))) t.2.2.1.length (x:=ZbH (ZsC n t.2.2.1)) (fun i hi=>by
  simp only[ZaJ];rw[if_pos (by omega),Zi hi,Zp hi (by omega)];unfold ZsC;rw[ZuN _ _ hi]) (by
  simp only[ZaJ]
  rw[if_neg (by omega),List.take_length])
 have e:Zd (ZaJ t) (n,0)=ZbH (ZsC n t.2.2.1):=by simpa[ZsC] using this
 rw[e];unfold ZbH;split <;> exact⟨_,rfl⟩
theorem Zxo (t:Tapi_Tx) (l:List Tapi_Coin):∃ r,ZpY t l=some r∧ZhZ t l=some r:=by
 classical
 unfold ZpY ZhZ;rw[ZsB,Zou,Za,Za];by_cases hc:ZiO t=0
 ·obtain⟨h64,h65⟩:=Zzu hc
  have hnc:¬ ¬ ZiO t=0:=by simp[hc]
  rw[if_neg hnc,if_neg hnc];by_cases hn:(l.length:Int)=(t.2.1.length:Int)
  ·have hnn:¬ ¬ (l.length:Int)=(t.2.1.length:Int):=by simp[hn]
   rw[if_neg hnn,if_neg hnn]
   have hk:∃ r,Zk1 l t=some r∧ZbI l t=some r:=by
    rw[ZyB (by omega)];unfold Zk1;rw[ZvY (by omega)];by_cases hs:Zmg (ZR l)
    ·rw[if_pos hs,if_pos hs]
     exact⟨_,rfl,rfl⟩
    ·rw[if_neg hs,if_neg hs,Za,if_neg (by simp),ZyC]
     obtain⟨r,hr⟩:=Zxn h65 (sumI (ZR l));exact⟨r,hr,hr⟩
   obtain⟨r,hk1,hk2⟩:=hk
   have e1:=Zfd (s:=0) (step:=Zgq l t) (fun i=>(i:Int)) (l.zip t.2.1) (fun x=>¬ (x.1.1.1=x.2.1.1∧x.1.1.2=x.2.1.2)) (some (0,101)) (some r) (fun i hi hb=>by
    have hi2:i<l.length:=by simp at hi; omega
    have hi3:i<t.2.1.length:=by simp at hi; omega
    simp only[List.getElem_zip] at hb;simp only[Zgq];rw[if_pos (by omega),Zi hi2,Zi hi3,if_neg hb,Zp hi2 (by omega)]) (fun i hi hb=>by
    have hi2:i<l.length:=by simp at hi; omega
    have hi3:i<t.2.1.length:=by simp at hi; omega
    simp only[List.getElem_zip] at hb;simp only[Zgq];rw[if_pos (by omega),Zi hi2,Zi hi3,if_pos hb];rfl) (by
    have:(l.zip t.2.1).length=l.length:=by simp; omega
    simp only[Zgq]
    rw[if_neg (by omega),hk1]) rfl
   have e2:=Zfd (s:=0) (step:=Zen l t) (fun i=>(i:Int)) (l.zip t.2.1) (fun x=>¬ (x.1.1.1=x.2.1.1∧x.1.1.2=x.2.1.2)) (some (0,101)) (some r) (fun i hi hb=>by
    have hi2:i<l.length:=by simp at hi; omega
    have hi3:i<t.2.1.length:=by simp at hi; omega
    simp only[List.getElem_zip] at hb;simp only[Zen];rw[if_pos (by omega),Zi hi2,Zi hi3,if_neg hb,Zp hi2 (by omega)]) (fun i hi hb=>by
    have hi2:i<l.length:=by simp at hi; omega
    have hi3:i<t.2.1.length:=by simp at hi; omega
    simp only[List.getElem_zip] at hb;simp only[Zen];rw[if_pos (by omega),Zi hi2,Zi hi3,if_pos hb];rfl) (by
    have:(l.zip t.2.1).length=l.length:=by simp; omega
    simp only[Zen]
    rw[if_neg (by omega),hk2]) rfl
   rw[e1,e2];split <;> exact⟨_,rfl,rfl⟩
  ·rw[if_pos hn,if_pos hn]
   exact⟨_,rfl,rfl⟩
 ·rw[if_pos hc,if_pos hc]
  exact⟨_,rfl,rfl⟩
theorem ZtN {k:IntKind}(h:k.signed=false) (x:Int):0≤k.wrap x:=by
 cases k <;> simp[IntKind.signed] at h <;> simp[IntKind.wrap,IntKind.signed,IntKind.bits] <;> omega
theorem ZyD {k:IntKind}(h:k.signed=false) (op:BinOp) (x y:Int):0≤bits op k x y:=ZtN h _
def rot (x n:Int):Int:=bits .or .u32 (IntKind.u32.wrap (x * (2 ^ (min (bits .and .u64 (IntKind.u64.wrap n) 31).toNat 32)))) (x.fdiv (2 ^ (min (IntKind.u64.wrap (32-(bits .and .u64 (IntKind.u64.wrap n) 31))).toNat 32)))
theorem ZvZ (x n:Int):YS x n=some (rot x n):=by
 have h1:¬ bits .and .u64 (IntKind.u64.wrap n) 31<0:=by have:=ZyD (k:=.u64) rfl .and (IntKind.u64.wrap n) 31; omega
 have h2:¬ IntKind.u64.wrap (32-bits .and .u64 (IntKind.u64.wrap n) 31)<0:=by have:=ZtN (k:=.u64) rfl (32-bits .and .u64 (IntKind.u64.wrap n) 31); omega
 unfold YS;rw[Zj h1,Zj h2];rfl
def rr (x n:Int):Int:=rot x (IntKind.i64.wrap (-n))
theorem ZkL (x n:Int):X4 x n=some (rr x n):=by
 unfold X4;rw[ZvZ];rfl
theorem ZiP (x n:Int):YZ x n=some (rr x n):=by
 unfold YZ;rw[ZvZ];rfl
def wd (b:Arr 64) (i:Nat):Nat→Int
 | 0=>0
 | j+1=>bits .or .u32 (IntKind.u32.wrap (wd b i j * 256)) (IntKind.u32.wrap (b.at (4 * i+j)))
def Zkx (b:Arr 64):Nat→Arr 64
 | 0=>zA 64
 | i+1=>(Zkx b i).put i (wd b i 4)
theorem ZtO (b:Arr 64):∀ (i j:Nat),i≤j→(Zkx b i).at j=0
 | 0,j,_=>ZAi
 | i+1,j,h=>by
  unfold Zkx;rw[Arr.at_put_ne _ (by omega)];exact ZtO b i j (by omega)
def nxtW (w:Arr 64) (i:Nat):Int:=IntKind.u32.wrap ((IntKind.u32.wrap ((IntKind.u32.wrap ((w.at (i-16))+(bits .xor .u32 (bits .xor .u32 (rr (w.at (i-15)) 7) (rr (w.at (i-15)) 18)) ((w.at (i-15)).fdiv 8))))+(w.at (i-7))))+(bits .xor .u32 (bits .xor .u32 (rr (w.at (i-2)) 17) (rr (w.at (i-2)) 19)) ((w.at (i-2)).fdiv 1024)))
def ZnH (w:Arr 64):Nat→Arr 64
 | 0=>w
 | k+1=>(ZnH w k).put (16+k) (nxtW (ZnH w k) (16+k))
def Ze1 (b:Arr 64):Arr 64:=ZnH (Zkx b 16) 48
theorem Zbx {n i:Nat}{z:Int}{β:Type}{f:Nat→Option β}(h:z=(i:Int)) (hi:i<n):(inA n z).bind f=f i:=by
 subst h;exact YE hi
theorem Zzv (w:Arr 64):ZaQ w=some (ZnH w 48):=by
 unfold ZaQ
 have:=ZQ (step:=Lsha_schedule_s2) (fun k=>(((16+k:Nat):Int),ZnH w k)) 48 (x:=some (ZnH w 48)) (fun k hk=>by
  simp only[Lsha_schedule_s2];rw[if_pos (by omega),Zbx (i:=16+k-15) (by rw[wi _ (by omega)]; omega) (by omega),ZkL,Za,ZkL,Za,Zbx (i:=16+k-2) (by rw[wi _ (by omega)]; omega) (by omega),ZkL,Za,ZkL,Za,Zbx (i:=16+k-16) (by rw[wi _ (by omega)]; omega) (by omega),Zbx (i:=16+k-7) (by rw[wi _ (by omega)]; omega) (by omega),Zbx (i:=16+k) rfl (by omega),wi _ (by omega)];rfl) (by
  simp only[Lsha_schedule_s2];rw[if_neg (by omega)]
  rfl)
 exact this
theorem Zzw (w:Arr 64):Za2 w=some (ZnH w 48):=by
 unfold Za2
 have:=ZQ (step:=Lref03_schedule_s2) (fun k=>(((16+k:Nat):Int),ZnH w k)) 48 (x:=some (ZnH w 48)) (fun k hk=>by
  simp only[Lref03_schedule_s2];rw[if_pos (by omega),Zbx (i:=16+k-15) (by rw[wi _ (by omega)]; omega) (by omega),ZiP,Za,ZiP,Za,Zbx (i:=16+k-2) (by rw[wi _ (by omega)]; omega) (by omega),ZiP,Za,ZiP,Za,Zbx (i:=16+k-16) (by rw[wi _ (by omega)]; omega) (by omega),Zbx (i:=16+k-7) (by rw[wi _ (by omega)]; omega) (by omega),Zbx (i:=16+k) rfl (by omega),wi _ (by omega)];rfl) (by
  simp only[Lref03_schedule_s2];rw[if_neg (by omega)]
  rfl)
 exact this
theorem Zxp (b:Arr 64):Zeo b=some (Ze1 b):=by
 unfold Zeo;refine ZQ (step:=ZdU b) (fun i=>((i:Int),Zkx b i)) 16 (x:=some (Ze1 b)) (fun i hi=>?_) ?_
 ·simp only[ZdU]
  rw[if_pos (by omega)]
  have h0:Zkx b i=(Zkx b i).put i (wd b i 0):=by
   have:=Arr.put_at (Zkx b i) (i:=i) (by omega);rw[ZtO b i i (Nat.le_refl _)] at this;exact this.symm
  have:=ZQ (step:=ZaR (i:Int) b) (fun j=>((j:Int),(Zkx b i).put i (wd b i j))) 4 (x:=some (.inl (((i+1:Nat):Int),(Zkx b i).put i (wd b i 4)))) (fun j hj=>by
   simp only[ZaR];rw[if_pos (by omega),YE (by omega),Zbx (i:=4 * i+j) (by rw[wi (4 * (i:Int)) (by omega),wi _ (by omega)]; omega) (by omega),Arr.at_put _ (by omega),Arr.put_put,Zp hj (by omega)];rfl) (by
   simp only[ZaR];rw[if_neg (by omega)]
   simp only[Zb1,Zp hi (show(16:Nat)≤9223372036854775807 by omega)])
  have e:Zd (ZaR (i:Int) b) (0,Zkx b i)=_:=(congrArg (fun w=>Zd (ZaR (i:Int) b) (0,w)) h0).trans this;rw[e];rfl
 ·simp only[ZdU]
  rw[if_neg (by omega),Zzv];rfl
abbrev bv (x:Int):BitVec 32:=BitVec.ofInt 32 x
theorem ZnI (x:Int):IntKind.u32.wrap x=x % 2 ^ 32:=by simp[IntKind.wrap,IntKind.signed,IntKind.bits]
theorem ZtP (x:Int):bv (IntKind.u32.wrap x)=bv x:=by
 rw[ZnI];apply BitVec.eq_of_toNat_eq
 simp[BitVec.toNat_ofInt]
theorem ZAy (x y:Int):bv (bits .or .u32 x y)=bv x ||| bv y:=by
 show bv (IntKind.u32.wrap ((bv x ||| bv y).toNat:Nat))=_
 rw[ZtP];generalize bv x ||| bv y=r
 show BitVec.ofInt 32 (r.toNat:Int)=r
 rw[BitVec.ofInt_natCast,BitVec.ofNat_toNat];simp
theorem Zxq {x x' y y':Int}(h1:bv x=bv x') (h2:bv y=bv y'):bits .or .u32 x y=bits .or .u32 x' y' := by
 show IntKind.u32.wrap ((bv x ||| bv y).toNat:Nat)=IntKind.u32.wrap ((bv x' ||| bv y').toNat:Nat)
 rw[h1,h2]
theorem ZsD (x:Int) (k:Nat) (h:BitVec.ofInt 32 (2 ^ k)=BitVec.twoPow 32 k):bv (x * 2 ^ k)=bv x <<< k:=by
 rw[BitVec.shiftLeft_eq_mul_twoPow,← h];exact BitVec.ofInt_mul _ _
def wr (b:Arr 64) (i:Nat):Int:=bits .or .u32 (bits .or .u32 (bits .or .u32 (IntKind.u32.wrap ((IntKind.u32.wrap (b.at (4 * i))) * 16777216)) (IntKind.u32.wrap ((IntKind.u32.wrap (b.at (4 * i+1))) * 65536))) (IntKind.u32.wrap ((IntKind.u32.wrap (b.at (4 * i+2))) * 256))) (IntKind.u32.wrap (b.at (4 * i+3)))
theorem ZAz (b:Arr 64) (i:Nat):wr b i=wd b i 4:=by
 unfold wr;simp only[wd];refine Zxq ?_ rfl;have e8:∀ x,bv (x * 256)=bv x <<< 8:=fun x=>ZsD x 8 (by decide)
 have e16:∀ x,bv (x * 65536)=bv x <<< 16:=fun x=>ZsD x 16 (by decide)
 have e24:∀ x,bv (x * 16777216)=bv x <<< 24:=fun x=>ZsD x 24 (by decide)
 simp only[ZAy,ZtP,e8,e16,e24];have h0:(bv 0) <<< 8=0#32:=by decide
 simp only[h0,BitVec.shiftLeft_or_distrib,← BitVec.shiftLeft_add,BitVec.zero_or,Nat.add_zero]
theorem Zv0 (b:Arr 64):ZcJ b=some (Ze1 b):=by
 unfold ZcJ;refine ZQ (step:=Zcv b) (fun i=>((i:Int),Zkx b i)) 16 (x:=some (Ze1 b)) (fun i hi=>?_) ?_
 ·simp only[Zcv]
  rw[if_pos (by omega),wi (4 * (i:Int)) (by omega),wi (4 * (i:Int)+1) (by omega),wi (4 * (i:Int)+2) (by omega),wi (4 * (i:Int)+3) (by omega),Zbx (i:=4 * i) (by omega) (by omega),Zbx (i:=4 * i+1) (by omega) (by omega),Zbx (i:=4 * i+2) (by omega) (by omega),Zbx (i:=4 * i+3) (by omega) (by omega),YE (by omega),Zp hi (by omega)];show some (Sum.inl (((i+1:Nat):Int),(Zkx b i).put i (wr b i)))=_
  rw[ZAz];rfl
 ·simp only[Zcv]
  rw[if_neg (by omega),Zzw];rfl
theorem consts:Lref03_constants=some shaK:=by
 unfold Lref03_constants
 kernel_rfl
theorem inits:Lref03_Initial=some shaInitial:=by
 unfold Lref03_Initial
 kernel_rfl
abbrev St8:=Int×Int×Int×Int×Int×Int×Int×Int
abbrev ad (x y:Int):Int:=IntKind.u32.wrap (x+y)
def t1 (s:St8) (k w:Int):Int:=match s with
 | (a,b,c,d,e,f,g,h)=>ad (ad (ad (ad h (bits .xor .u32 (bits .xor .u32 (rr e 6) (rr e 11)) (rr e 25))) (bits .xor .u32 (bits .and .u32 e f) (bits .and .u32 (bits .xor .u32 4294967295 e) g))) k) w
def t2 (s:St8):Int:=match s with
 | (a,b,c,d,e,f,g,h)=>ad (bits .xor .u32 (bits .xor .u32 (rr a 2) (rr a 13)) (rr a 22)) (bits .xor .u32 (bits .xor .u32 (bits .and .u32 a b) (bits .and .u32 a c)) (bits .and .u32 b c))
def rnd (s:St8) (k w:Int):St8:=match s with
 | (a,b,c,d,e,f,g,h)=>(ad (t1 s k w) (t2 s),a,b,c,ad d (t1 s k w),e,f,g)
def ZmI (w:Arr 64) (s:St8):Nat→St8
 | 0=>s
 | i+1=>rnd (ZmI w s i) (shaK.at i) (w.at i)
def st0 (x:Arr 8):St8:=(x.at 0,x.at 1,x.at 2,x.at 3,x.at 4,x.at 5,x.at 6,x.at 7)
noncomputable def Zpx (x:Arr 8) (b:Arr 64):Arr 8:=match ZmI (Ze1 b) (st0 x) 64 with
 | (a,b,c,d,e,f,g,h)=>((((((((zA 8).put 0 (IntKind.u32.wrap ((x.at 0)+a))).put 1 (IntKind.u32.wrap ((x.at 1)+b))).put 2 (IntKind.u32.wrap ((x.at 2)+c))).put 3 (IntKind.u32.wrap ((x.at 3)+d))).put 4 (IntKind.u32.wrap ((x.at 4)+e))).put 5 (IntKind.u32.wrap ((x.at 5)+f))).put 6 (IntKind.u32.wrap ((x.at 6)+g))).put 7 (IntKind.u32.wrap ((x.at 7)+h))
def Zov (s:St8) (i:Nat):Int×Int×Int×Int×Int×Int×Int×Int×Int:=match s with
 | (a,b,c,d,e,f,g,h)=>(a,b,c,d,e,f,g,h,(i:Int))
theorem ZyE (x:Arr 8) (b:Arr 64):Zep x b=some (Zpx x b):=by
 unfold Zep;rw[Zxp,Za];refine ZQ (step:=ZdV (Ze1 b) x) (fun i=>Zov (ZmI (Ze1 b) (st0 x) i) i) 64 (x:=some (Zpx x b)) (fun i hi=>?_) ?_
 ·show _=some (Sum.inl (Zov (rnd (ZmI (Ze1 b) (st0 x) i) (shaK.at i) ((Ze1 b).at i)) (i+1)))
  obtain⟨a,b',c,d,e,f,g,h⟩:=ZmI (Ze1 b) (st0 x) i;simp only[Zov,ZdV];refine(if_pos (show(i:Int)<64 by omega)).trans ?_;rw[ZkL,Za,ZkL,Za,ZkL,Za,YE hi,ZkL,Za,ZkL,Za,ZkL,Za,Zp hi (by omega)];rfl
 ·unfold Zpx
  obtain⟨a,b',c,d,e,f,g,h⟩:=ZmI (Ze1 b) (st0 x) 64;simp only[Zov,ZdV];exact(if_neg (by decide)).trans rfl
theorem Zxr (x:Arr 8) (b:Arr 64):XL x b=some (Zpx x b):=by
 unfold XL;rw[Zv0,Za,consts,Za];refine ZQ (step:=Zcw shaK (Ze1 b) x) (fun i=>Zov (ZmI (Ze1 b) (st0 x) i) i) 64 (x:=some (Zpx x b)) (fun i hi=>?_) ?_
 ·show _=some (Sum.inl (Zov (rnd (ZmI (Ze1 b) (st0 x) i) (shaK.at i) ((Ze1 b).at i)) (i+1)))
  obtain⟨a,b',c,d,e,f,g,h⟩:=ZmI (Ze1 b) (st0 x) i;simp only[Zov,Zcw];refine(if_pos (show(i:Int)<64 by omega)).trans ?_;rw[ZiP,Za,ZiP,Za,ZiP,Za,YE hi,ZiP,Za,ZiP,Za,ZiP,Za,Zp hi (by omega)];rfl
 ·unfold Zpx
  obtain⟨a,b',c,d,e,f,g,h⟩:=ZmI (Ze1 b) (st0 x) 64;simp only[Zov,Zcw];exact(if_neg (by decide)).trans rfl
def ZhR (n:Nat):Nat:=(64-(n+9) % 64) % 64
def ZsE (n:Nat) (j:Nat):Int:=IntKind.u8.wrap ((IntKind.u64.wrap (8 * (n:Int))).fdiv (2 ^ (56-8 * j)))
def Zeb (n:Nat):List Int:=(128 :: List.replicate (ZhR n) 0)++(List.range 8).map (ZsE n)
theorem Zpy (n:Nat):(Zeb n).length=9+ZhR n:=by simp[Zeb]; omega
theorem ZoU (n:Nat):ZhR n<64:=Nat.mod_lt _ (by omega)
theorem tm {a b:Nat}:((a:Int).tmod (b:Int))=((a % b:Nat):Int):=rfl
theorem ZAA {n:Nat}(hn:n≤1000000000):(IntKind.u64.wrap (64-((IntKind.u64.wrap ((n:Int)+9)).tmod 64))).tmod 64=(ZhR n:Int):=by
 have e1:IntKind.u64.wrap ((n:Int)+9)=((n+9:Nat):Int):=wu _ (by omega);have e2:((n+9:Nat):Int).tmod 64=(((n+9) % 64:Nat):Int):=rfl;have h:=Nat.mod_lt (n+9) (show 64 > 0 by omega);have e3:IntKind.u64.wrap (64-(((n+9) % 64:Nat):Int))=((64-(n+9) % 64:Nat):Int):=by rw[wu _ (by omega)]; omega
 rw[e1,e2,e3];rfl
theorem ZyF {n:Nat}(hn:n≤1000000000):Zka (n:Int)=some (Zeb n):=by
 have hp:=ZAA hn;have hl:=ZoU n;unfold Zka;rw[hp,wu (1+(ZhR n:Int)) (by omega),wu (9+(ZhR n:Int)) (by omega),Zj (by omega),Zj (by simp; omega)]
 have e0:(List.replicate ((1+(ZhR n:Int)).toNat) (0:Int)).set 0 128=128 :: List.replicate (ZhR n) 0:=by
  rw[show(1+(ZhR n:Int)).toNat=ZhR n+1 by omega,List.replicate_succ];rfl
 rw[e0]
 have:=ZQ (step:=ZiH (n:Int)) (fun k=>((k:Int),(128 :: List.replicate (ZhR n) 0)++(List.range k).map (ZsE n))) 8 (x:=some (Zeb n)) (fun k hk=>by
  simp only[ZiH];rw[if_pos (by omega),wi (8 * (k:Int)) (by omega),wi (56-8 * (k:Int)) (by omega),Zj (by omega),Zj (by simp; omega),Zp hk (by omega)];have e:min (56-8 * (k:Int)).toNat 64=56-8 * k:=by omega
  rw[e,List.range_succ,List.map_append,← List.append_assoc];rfl) (by
  simp only[ZiH];rw[if_neg (by omega)]
  rfl)
 simpa using this
theorem Zxs {n:Nat}(hn:n≤1000000000) (b:List Int) (hb:b.length≤1000):Zd (Zeq (n:Int)) (7,b)=some (b++(List.range 8).map (ZsE n)):=by
 have:=ZQ (step:=Zeq (n:Int)) (fun k=>(7-(k:Int),b++(List.range k).map (ZsE n))) 8 (x:=some (b++(List.range 8).map (ZsE n))) (fun k hk=>by
  simp only[Zeq];rw[if_pos (by omega),wi (8 * (7-(k:Int))) (by omega),Zj (by omega),Zj (by simp; omega),wi (7-(k:Int)-1) (by omega)];have e:min (8 * (7-(k:Int))).toNat 64=56-8 * k:=by omega
  rw[e,List.range_succ,List.map_append,← List.append_assoc,show 7-(k:Int)-1=7-((k+1:Nat):Int) by omega];rfl) (by
  simp only[Zeq];rw[if_neg (by omega)]
  rfl)
 simpa using this
theorem ZyG {n:Nat}(hn:n≤1000000000):Zh0 (n:Int)=some (Zeb n):=by
 have hl:=ZoU n;unfold Zh0
 have key:∀ k,k≤ZhR n→(IntKind.u64.wrap ((IntKind.u64.wrap ((n:Int)+(IntKind.u64.wrap (((128 :: List.replicate k (0:Int)).length:Nat):Int))))+8)).tmod 64=(((n+k+9) % 64:Nat):Int):=by
  intro k hk;have e:(128 :: List.replicate k (0:Int)).length=k+1:=by simp
  rw[e,wu ((k+1:Nat):Int) (by omega),wu ((n:Int)+((k+1:Nat):Int)) (by omega),wu _ (by omega),show((n:Int)+((k+1:Nat):Int)+8)=((n+k+9:Nat):Int) by omega];exact tm
 have:=ZQ (step:=Zgs (n:Int)) (fun k=>128 :: List.replicate k (0:Int)) (ZhR n) (x:=some (Zeb n)) (fun k hk=>by
  simp only[Zgs];rw[key k (by omega),if_pos,Zj (by simp; omega)]
  ·rw[List.cons_append,← List.replicate_succ']
  ·have:¬ (n+k+9) % 64=0:=by unfold ZhR at hk; omega
   omega) (by
  simp only[Zgs];rw[key _ (Nat.le_refl _),if_neg]
  ·unfold Zgr
   rw[Zxs hn _ (by simp; omega)];rfl
  ·have:(n+ZhR n+9) % 64=0:=by unfold ZhR; omega
   omega)
 simpa using this
def blk (y:List Int) (i:Nat):Arr 64:=Zqs 64 (y.drop (64 * i))
noncomputable def hsh (y:List Int):Nat→Arr 8
 | 0=>shaInitial
 | i+1=>Zpx (hsh y i) (blk y i)
theorem Zv1 {l:List Int}(h:64≤l.length):(zA 64).over l=Zqs 64 l:=by
 unfold Arr.over Zqs;rw[dif_pos h];have hz:=(zA 64).hl;have e:(zA 64).l.drop (min l.length 64)=[]:=List.drop_eq_nil_of_le (by omega);simp only[e,List.append_nil]
def byt (h:Arr 8) (k:Nat):Int:=IntKind.u8.wrap ((h.at (k / 4)).fdiv (2 ^ (24-(k % 4) * 8)))
def ZmJ (h:Arr 8):Nat→Arr 32
 | 0=>zA 32
 | k+1=>(ZmJ h k).put k (byt h k)
theorem ZyH (h:Arr 8):ZgM h=some (ZmJ h 32):=by
 unfold ZgM;refine ZQ (step:=ZiI h) (fun k=>((k:Int),ZmJ h k)) 32 (x:=some (ZmJ h 32)) (fun k hk=>?_) ?_
 ·simp only[ZiI]
  have e4:(k:Int).tmod 4=((k % 4:Nat):Int):=tm;have d4:(k:Int).tdiv 4=((k / 4:Nat):Int):=rfl;rw[if_pos (by omega),e4,d4,wi (((k / 4:Nat):Int)) (by omega),wi (((k % 4:Nat):Int) * 8) (by omega),wi (24-((k % 4:Nat):Int) * 8) (by omega),YE (by omega),Zj (by omega),YE hk,Zp hk (by omega)];have e:min (24-((k % 4:Nat):Int) * 8).toNat 32=24-(k % 4) * 8:=by omega
  rw[e];rfl
 ·simp only[ZiI]
  rw[if_neg (by omega)];rfl
theorem ZyI (h:Arr 8):ZiY h=some (ZmJ h 32):=by
 unfold ZiY;refine ZQ (step:=Zgt h) (fun i=>((i:Int),ZmJ h (4 * i))) 8 (x:=some (ZmJ h 32)) (fun i hi=>?_) ?_
 ·simp only[Zgt]
  rw[if_pos (by omega),wi (4 * (i:Int)) (by omega),wi (4 * (i:Int)+1) (by omega),wi (4 * (i:Int)+2) (by omega),wi (4 * (i:Int)+3) (by omega),YE hi,Zbx (i:=4 * i) (by omega) (by omega),Zbx (i:=4 * i+1) (by omega) (by omega),Zbx (i:=4 * i+2) (by omega) (by omega),Zbx (i:=4 * i+3) (by omega) (by omega),Zp hi (by omega)]
  have b0:byt h (4 * i)=IntKind.u8.wrap ((h.at i).fdiv 16777216):=by
   unfold byt;rw[show 4 * i / 4=i by omega,show 4 * i % 4=0 by omega];rfl
  have b1:byt h (4 * i+1)=IntKind.u8.wrap ((h.at i).fdiv 65536):=by
   unfold byt;rw[show(4 * i+1) / 4=i by omega,show(4 * i+1) % 4=1 by omega];rfl
  have b2:byt h (4 * i+2)=IntKind.u8.wrap ((h.at i).fdiv 256):=by
   unfold byt;rw[show(4 * i+2) / 4=i by omega,show(4 * i+2) % 4=2 by omega];rfl
  have b3:byt h (4 * i+3)=IntKind.u8.wrap (h.at i):=by
   unfold byt;rw[show(4 * i+3) / 4=i by omega,show(4 * i+3) % 4=3 by omega];show IntKind.u8.wrap ((h.at i).fdiv 1)=_
   rw[Int.fdiv_one]
  rw[show 4 * (i+1)=4 * i+3+1 by omega];simp only[ZmJ];rw[b0,b1,b2,b3]
 ·simp only[Zgt]
  rw[if_neg (by omega)];rfl
noncomputable def Zbb (a:List Int):Arr 32:=ZmJ (hsh (a++Zeb a.length) ((a.length+(Zeb a.length).length) / 64)) 32
theorem Zq6 (n:Nat):(n+(Zeb n).length) % 64=0:=by
 rw[Zpy];unfold ZhR;omega
theorem ZyJ {a b:List Int}(ha:a.length≤1000000000) (hb:b.length≤1000000000):Zj9 [a,b]=some (a++b):=by
 unfold Zj9
 rw[ZT (s' := (1,a)) (by
  simp only[ZiG];rw[if_pos (by simp),show(0:Int)=((0:Nat):Int) from rfl,Zi (by simp),Zj (by simp; omega)];simp[wi]),ZT (s' := (2,a++b)) (by
  simp only[ZiG];rw[if_pos (by simp),show(1:Int)=((1:Nat):Int) from rfl,Zi (by simp),Zj (by simp; omega)]
  simp[wi])]
 refine Xb ?_;simp only[ZiG];rw[if_neg (by simp)];rfl
theorem Zqy {a:List Int}(h:a.length≤100000000):Zhr a=some (Zbb a):=by
 have hp:=Zpy a.length;have hl:=ZoU a.length;have ht:=Zq6 a.length;unfold Zhr;rw[wu _ (by omega),ZyF (by omega),Za,ZyJ (by omega) (by omega),Za];have hlen:(a++Zeb a.length).length=a.length+(Zeb a.length).length:=by simp
 have hd:((a++Zeb a.length).length:Int).tdiv 64=(((a.length+(Zeb a.length).length) / 64:Nat):Int):=by rw[hlen]; rfl
 refine ZQ (step:=ZiJ (a++Zeb a.length)) (fun i=>((i:Int),hsh (a++Zeb a.length) i)) ((a.length+(Zeb a.length).length) / 64) (x:=some (Zbb a)) (fun i hi=>?_) ?_
 ·simp only[ZiJ]
  rw[hd,wi (((a.length+(Zeb a.length).length) / 64:Nat):Int) (by omega),if_pos (by omega),wi (64 * (i:Int)) (by omega),Zj (by omega),Zj (by omega),show(64 * (i:Int)).toNat=64 * i by omega,ZyE,Za,Zp hi (by omega)];rfl
 ·simp only[ZiJ]
  rw[hd,wi (((a.length+(Zeb a.length).length) / 64:Nat):Int) (by omega),if_neg (by omega),ZyH];rfl
theorem Zjs {a:List Int}(h:a.length≤100000000):Y7 a=some (Zbb a):=by
 have hp:=Zpy a.length;have hl:=ZoU a.length;have ht:=Zq6 a.length;unfold Y7;rw[Zj (by omega),wu _ (by omega),ZyG (by omega),Za,Zj (by omega),inits,Za];have hlen:(a++Zeb a.length).length=a.length+(Zeb a.length).length:=by simp
 refine ZQ (step:=Zgu a (Zeb a.length)) (fun i=>((64 * i:Int),hsh (a++Zeb a.length) i)) ((a.length+(Zeb a.length).length) / 64) (x:=some (Zbb a)) (fun i hi=>?_) ?_
 ·simp only[Zgu]
  rw[wi (64 * (i:Int)+64) (by omega),if_pos (by omega),Zj (by omega),show(64 * (i:Int)).toNat=64 * i by omega,Zv1 (by rw[List.length_drop]; omega),Zxr,Za,show 64 * (i:Int)+64=64 * ((i+1:Nat):Int) by omega];rfl
 ·simp only[Zgu]
  rw[wi _ (by omega),if_neg (by omega),ZyI];rfl
theorem Zow {a:List Int}(h:a.length≤100000000):Zcf a=some (Zbb (Zbb a).l):=by
 have:=(Zbb a).hl;unfold Zcf;rw[Zqy h,Za,Zqy (by omega)];rfl
theorem Znd {a:List Int}(h:a.length≤100000000):Zaf a=some (Zbb (Zbb a).l):=by
 have:=(Zbb a).hl;unfold Zaf;rw[Zjs h,Za,Zjs (by omega)];rfl
section
set_option maxRecDepth 100000
theorem Zxt {a b:List Int}(h:a.length+b.length≤140737488355328):Y0 [a,b]=some (a++b):=by
 unfold Y0
 rw[ZT (s' := (1,a)) (by
  simp only[Zak];rw[if_pos (by simp),show(0:Int)=((0:Nat):Int) from rfl,Zi (by simp)];simp only[List.getElem_cons_zero];rw[Zae (by simp; omega)];simp[wi]),ZT (s' := (2,a++b)) (by
  simp only[Zak];rw[if_pos (by simp),show(1:Int)=((1:Nat):Int) from rfl,Zi (by simp)];simp only[List.getElem_cons_succ,List.getElem_cons_zero];rw[Zae (by omega)]
  simp[wi])]
 refine Xb ?_;simp only[Zak];rw[if_neg (by simp)];rfl
theorem ZuP {a b:List Int}(h:a.length+b.length≤1000000000):ZZ [a,b]=some (a++b):=by
 have e1:Zd (Yo [a,b]) (0,([]:List Int))=some (a++b):=by
  rw[ZT (s' := (1,a)) (by
   simp only[Yo];rw[if_pos (by simp),show(0:Int)=((0:Nat):Int) from rfl,Zi (by simp),Zj (by simp; omega)];simp[wi]),ZT (s' := (2,a++b)) (by
   simp only[Yo];rw[if_pos (by simp),show(1:Int)=((1:Nat):Int) from rfl,Zi (by simp),Zj (by simp; omega)]
   simp[wi])]
  refine Xb ?_;simp only[Yo];rw[if_neg (by simp)];rfl
 unfold ZZ
 rw[ZT (s' := ((a.length:Int),1)) (by
  simp only[YR];rw[if_pos (by simp),show(0:Int)=((0:Nat):Int) from rfl,Zi (by simp)];simp only[List.getElem_cons_zero];rw[wi (((0:Nat):Int)+a.length) (by omega),if_neg (by omega),YQ,wi (((0:Nat):Int)+a.length) (by omega)];simp[wi]),ZT (s' := ((a.length:Int)+b.length,2)) (by
  simp only[YR];rw[if_pos (by simp),show(1:Int)=((1:Nat):Int) from rfl,Zi (by simp)];simp only[List.getElem_cons_succ,List.getElem_cons_zero];rw[wi ((a.length:Int)+b.length) (by omega),if_neg (by omega),YQ,wi ((a.length:Int)+b.length) (by omega)]
  simp[wi])]
 refine Xb ?_;simp only[YR];rw[if_neg (by simp),Zba,Zj (by omega),e1]
noncomputable def ZuQ (f p:Arr 32):Arr 32:=Zbb (Zbb (f.l++p.l)).l
theorem Zq7 (f p:Arr 32):Zb4 f p=some (ZuQ f p):=by
 have h1:=f.hl; have h2:=p.hl;unfold Zb4;rw[ZuP (by omega),Za,Zow (by simp[h1,h2])];rfl
theorem ZuR (f p:Arr 32):Zer f p=some (ZuQ f p):=by
 have h1:=f.hl; have h2:=p.hl;unfold Zer;rw[Zxt (by omega),Za,Znd (by simp[h1,h2])];rfl
def ZmK (f:Tapi_Filter):List Int×Int:=if (f.1<0∨4096<f.1)∨200000<(f.2.length:Int) then([],4) else(Za9 f.1++bytesB f.2,0)
theorem ZyK (f:Tapi_Filter):ZdB f=some (ZmK f):=by
 unfold ZdB ZmK;by_cases h:(f.1<0∨4096<f.1)∨200000<(f.2.length:Int)
 ·rw[if_pos h,if_pos h]
 ·have:=Zaz f.1
  rw[if_neg h,if_neg h,wu _ (by omega),ZlN (by omega) (by simp),Za,List.nil_append,Zon (by omega)];rfl
theorem Zxu (f:Tapi_Filter):Zes f=some (ZmK f):=by
 unfold Zes ZmK;by_cases h:(f.1<0∨4096<f.1)∨200000<(f.2.length:Int)
 ·rw[if_pos h,if_pos h]
 ·have:=Zaz f.1
  rw[if_neg h,if_neg h,wu _ (by omega),Zkr (by omega) (by simp),Za,List.nil_append,Zoo (by omega)];rfl
theorem ZsF (f:Tapi_Filter):(ZmK f).1.length≤300000:=by
 unfold ZmK;split
 ·simp
 ·have:=Zaz f.1
  have:=ZlA f.2;simp only[List.length_append];omega
noncomputable def Zp5 (f:Tapi_Filter):Arr 32:=if (ZmK f).2=0 then Zbb (Zbb (ZmK f).1).l else zA 32
theorem ZsG (f:Tapi_Filter):ZdY f=some (Zp5 f):=by
 have:=ZsF f;unfold ZdY Zp5;rw[ZyK,Za];by_cases h:(ZmK f).2=0
 ·rw[if_neg (by simp[h]),if_pos h,Zow (by omega)]
  rfl
 ·rw[if_pos h,if_neg h]
theorem Zv2 (f:Tapi_Filter):ZgR f=some (Zp5 f):=by
 have:=ZsF f;unfold ZgR Zp5;rw[Zxu,Za];by_cases h:(ZmK f).2=0
 ·rw[if_neg (by simp[h]),if_pos h,Znd (by omega)]
  rfl
 ·rw[if_pos h,if_neg h]
end
end Go.Lc
