import Derived.Test.YtbppknpnmjhjpaaGreatDoorLcG3
import Derived.Test.YtbppknpnmjhjpaaGreatDoorLcG1
import Derived.IntWalk
import Derived.KernelRfl
import Derived.Test.YtbppknpnmjhjpaaGreatDoorAvP3
import Derived.Test.YtbppknpnmjhjpaaGreatDoorLcG2
namespace Go.Av
open Go.RowKit
open Go.Av
set_option linter.unusedVariables false
set_option linter.unusedSimpArgs false
class Fc (p:Prop) (q:outParam Prop):Prop where
 h:p→q
instance {p:Prop}[Decidable p]{u:Unit}:Fc (chk p=some u) p:=⟨ZO⟩
instance {n:Nat}{i:Int}{j:Nat}:Fc (inA n i=some j) (0≤i∧i.toNat=j∧j<n):=⟨Yj⟩
instance {α:Type}{l:List α}{i:Nat}{x:α}:Fc (l[i]? = some x) (l[i]? = some x∧∀ h':i<l.length,l[i]=x):=⟨fun h=>⟨h,Yb h⟩⟩
abbrev Con.Q {α β:Type}(K:Con α β) (x:α) (y:β):Prop:=K.G (K.E x)=some (K.R x y)
section
variable {α β γ:Type}{P:Prop}{r:Option β}{y:β}
theorem ZkQ {o:Option α}{f:α→Option β}{q:α→Prop}[i:∀ x,Fc (o=some x) (q x)] (k:∀ x,o=some x→q x→Imp (f x=some y) P):Imp (o.bind f=some y) P:=fun h =>
 let ⟨x,h1,h2⟩:=bs h
 k x h1 ((i x).h h1) h2
theorem ZjA {o:Option α}{f:α→Option β}{x:α}(e:o=some x) (k:Imp (f x=some y) P):Imp (o.bind f=some y) P:=fun h=>k (by rw[e] at h; exact h)
theorem Zl8 {p:Prop}[Decidable p]{f:Unit→Option β}(k:p→Imp (f ()=some y) P):Imp ((chk p).bind f=some y) P:=fun h =>
 let ⟨_,h1,h2⟩:=bs h
 k (ZO h1) h2
theorem Zlk {l:List α}{i:Int}{f:α→Option β}(k:∀ x,0≤i→l[i.toNat]? = some x→(∀ h':i.toNat<l.length,l[i.toNat]=x)→Imp (f x=some y) P):Imp ((idx l i).bind f=some y) P:=fun h =>
 let ⟨x,h1,h2⟩:=bs h
 k x (ZbP h1).1 (ZbP h1).2 (Yb (ZbP h1).2) h2
theorem ZkR {l:List α}{i:Int}{f:α→Option β}{x:α}(e:l[i.toNat]? = some x) (k:Imp (f x=some y) P):Imp ((idx l i).bind f=some y) P:=Zlk fun z _ h _=>by
 obtain rfl:=Option.some.inj (e.symm.trans h);exact k
theorem ZkS {a:α}{f:α→Option β}(k:Imp (f a=r) P):Imp ((some a).bind f=r) P:=k
theorem im_none:Imp ((none:Option β)=some y) P:=fun h=>by cases h
theorem ZjB {f:α→Option β}:Imp ((none:Option α).bind f=some y) P:=fun h=>by cases h
theorem Zfu {c:Prop}[Decidable c]{a b:Option β}(hc:c) (k:Imp (a=r) P):Imp ((if c then a else b)=r) P:=fun h=>k (by rwa[if_pos hc] at h)
theorem Zll {c:Prop}[Decidable c]{a b:Option β}(hc:¬ c) (k:Imp (b=r) P):Imp ((if c then a else b)=r) P:=fun h=>k (by rwa[if_neg hc] at h)
theorem ZdD {c:Prop}[Decidable c]{a b:Option α}{f:α→Option β}(hc:c) (k:Imp (a.bind f=r) P):Imp ((if c then a else b).bind f=r) P:=fun h=>k (by rwa[if_pos hc] at h)
theorem ZjC {c:Prop}[Decidable c]{a b:Option α}{f:α→Option β}(hc:¬ c) (k:Imp (b.bind f=r) P):Imp ((if c then a else b).bind f=r) P:=fun h=>k (by rwa[if_neg hc] at h)
theorem ZnW {c:Prop}[Decidable c]{a b:Option β}(k:c→Imp (a=r) P) (l:¬ c→Imp (b=r) P):Imp ((if c then a else b)=r) P:=if h:c then Zfu h (k h) else Zll h (l h)
theorem Zl9 {c:Prop}[Decidable c]{a b:Option α}{f:α→Option β}(k:c→Imp (a.bind f=r) P) (l:¬ c→Imp (b.bind f=r) P):Imp ((if c then a else b).bind f=r) P:=if h:c then ZdD h (k h) else ZjC h (l h)
theorem ZkT {c d:Prop}[Decidable c] [Decidable d]{i:Decidable (c∨d)}{a b:Option β}(k:Imp ((if c then a else if d then a else b)=r) P):Imp ((@ite _ (c∨d) i a b)=r) P:=fun h=>k (by
 rw[← h]; by_cases hc:c <;> by_cases hd:d <;> simp[hc,hd])
theorem ZjD {c d:Prop}[Decidable c] [Decidable d]{i:Decidable (c∧d)}{a b:Option β}(k:Imp ((if c then if d then a else b else b)=r) P):Imp ((@ite _ (c∧d) i a b)=r) P:=fun h=>k (by
 rw[← h]; by_cases hc:c <;> by_cases hd:d <;> simp[hc,hd])
theorem ZjE {c:Prop}[Decidable c]{i:Decidable (¬ c)}{a b:Option β}(k:Imp ((if c then b else a)=r) P):Imp ((@ite _ (¬ c) i a b)=r) P:=fun h=>k (by
 rw[← h]; by_cases hc:c <;> simp[hc])
theorem ZiH {o:Option γ}{g:γ→Option α}{f:α→Option β}(k:Imp ((o.bind fun x=>(g x).bind f)=r) P):Imp ((o.bind g).bind f=r) P:=fun h=>k (by rw[← h]; cases o <;> rfl)
end
theorem Zma {β γ:Type}{o:Option β}{g:β→γ}{y:γ}{P:Prop}(k:∀ z,y=g z→Imp (o=some z) P):Imp (o.map g=some y) P:=fun h=>by
 obtain⟨z,h1,h2⟩:=Option.map_eq_some_iff.1 h;exact k z h2.symm h1
theorem Zmb {β:Type}{a y:β}{P:Prop}(k:a=y→P):Imp (some a=some y) P:=fun h=>k (Option.some.inj h)
theorem ZkU {P:Prop}(k:Imp True P):P:=k trivial
theorem ZnX {β:Type}{z r:β}{A P:Prop}(k:r=z→Imp A P):Imp A (z=r→P):=fun a e=>k e.symm a
theorem leT {a b:Nat}(h:a≤b):(a≤b)=True:=eq_true h
theorem ltT {a b:Nat}(h:a<b):(a<b)=True:=eq_true h
theorem Zkr {a b:Int}(h:a≤b):(a≤b)=True:=eq_true h
theorem Zks {a b:Int}(h:a<b):(a<b)=True:=eq_true h
theorem leF {a b:Nat}(h:b<a):(a≤b)=False:=eq_false (by omega)
theorem ltF {a b:Nat}(h:b≤a):(a<b)=False:=eq_false (by omega)
theorem Zkt {a b:Int}(h:b<a):(a≤b)=False:=eq_false (by omega)
theorem Zku {a b:Int}(h:b≤a):(a<b)=False:=eq_false (by omega)
@[simp] theorem Zzg (a:Nat):(1+a≤a+1)=True:=eq_true (by omega)
@[simp] theorem tk_map {α:Type}{f:α→List Cell}{c:List Cell}{l:List α}:List.take (1+l.length) (c :: List.map f l)=c :: List.map f l:=List.take_of_length_le (by simp; omega)
@[simp] theorem ZA1 {α:Type}{f:α→List Cell}{c:List Cell}{l:List α}{m:Nat}:List.take (1+(l.length-m)) (c :: List.drop m (List.map f l))=c :: List.drop m (List.map f l):=List.take_of_length_le (by simp; omega)
@[simp] theorem ZA2 {k:IntKind}{c:List Cell}{l:List Int}{m:Nat}:List.take (1+(l.length-m)) (c :: List.drop m (Zg k l))=c :: List.drop m (Zg k l):=List.take_of_length_le (by simp; omega)
section
variable {bx:Boxes}{k:IntKind}{cs:List Cell}
theorem ZtG {l:List Int}{es:List Nat}(h:(es.take l.length).all (· == 0)=true):Zba bx es (ints k l++cs)=(Zba bx (es.drop l.length) cs).map (ints k l++·):=by
 induction l generalizing es with
 | nil=>simp[ints]
 | cons x l ih =>
  cases es with
  | nil =>
   have:=ih (es:=[]) (by simp);simp only[List.drop_nil] at this ⊢;show(match Zet bx 0 (.v (.int k x)),Zba bx [] (ints k l++cs) with | some d,some ds=>some (d :: ds) | _,_=>none)=_
   rw[this];generalize Zba bx [] cs=z;cases z <;> simp[Zet,Z8,ints]
  | cons e es =>
   simp only[List.length_cons,List.take_succ_cons,List.all_cons,Bool.and_eq_true,beq_iff_eq] at h;obtain⟨rfl,h⟩:=h;have:=ih h;show(match Zet bx 0 (.v (.int k x)),Zba bx es (ints k l++cs) with | some d,some ds=>some (d :: ds) | _,_=>none)=_
   rw[this];simp only[List.length_cons,List.drop_succ_cons];cases Zba bx (es.drop l.length) cs <;> simp[Zet,Z8,ints]
theorem ZtH {l:List Int}{es:List Nat}:lentL es (ints k l++cs)=lentL (es.drop l.length) cs:=by
 induction l generalizing es with
 | nil=>simp[ints]
 | cons x l ih =>
  cases es with
  | nil =>
   have:=ih (es:=[]);simp only[List.drop_nil] at this ⊢;show nmC (.v (.int k x))++lentL [] (ints k l++cs)=_
   rw[this]; rfl
  | cons e es =>
   show ZeW e (.v (.int k x))++lentL es (ints k l++cs)=_
   rw[ih];simp[ZeW,nmC]
theorem Zwg {l:List Int}{es:List Nat}:hdL es (ints k l++cs)=hdL (es.drop l.length) cs:=by
 induction l generalizing es with
 | nil=>simp[ints]
 | cons x l ih =>
  cases es with
  | nil =>
   have:=ih (es:=[]);simp only[List.drop_nil] at this ⊢;show hdL [] (ints k l++cs)=_
   rw[this]
  | cons e es =>
   show hdC e (.v (.int k x))++hdL es (ints k l++cs)=_
   rw[ih];simp[hdC,nmC]
variable {n:Nat}{a:Arr n}{es:List Nat}
@[simp] theorem Zz5 (h:(es.take n).all (· == 0)=true):Zba bx es (arC k a++cs)=(Zba bx (es.drop n) cs).map (arC k a++·):=by
 have:=ZtG (bx:=bx) (k:=k) (cs:=cs) (l:=a.l) (es:=es) (by rwa[a.hl])
 rwa[a.hl] at this
@[simp] theorem lentL_arC:lentL es (arC k a++cs)=lentL (es.drop n) cs:=by
 have:=ZtH (k:=k) (cs:=cs) (l:=a.l) (es:=es)
 rwa[a.hl] at this
@[simp] theorem hdL_arC:hdL es (arC k a++cs)=hdL (es.drop n) cs:=by
 have:=Zwg (k:=k) (cs:=cs) (l:=a.l) (es:=es)
 rwa[a.hl] at this
end
theorem Z5 {α β:Type}{f:α→β}{l:List α}{n:Nat}:List.take (l.length-n) (List.drop n (List.map f l))=List.drop n (List.map f l):=List.take_of_length_le (by simp)
theorem eqI {a b:Int}(h:a=b):a≤b∧b≤a:=⟨Int.le_of_eq h,Int.le_of_eq h.symm⟩
theorem ZgE {X R:Prop}(e:Zbo X R) (x:X):R:=e.h ▸ x
section
variable {tt:TT}{T:Tab}{G:Glob}{kp:Keep}{st st1:ASt}{c:Code}{Q:AE→ASt→Prop}{σ ρ:Type}
theorem ZkV {A P:Prop}(v:Bool) (k:v=true→Imp A P) (l:v=false→Imp A P):Imp A P:=by cases v <;> simp_all
theorem Zay {step:σ→Option (σ ⊕ ρ)}{s:σ}{r:ρ}(k:Imp (Ze step s=some r) (ZI tt T G kp (.loop c) st Q)):Imp (Ze step s=some r) (ZI tt T G kp (.loop c) st Q):=k
def Zjb (l:List (Nat×PV)) (e:List PV):List PV:=l.foldl (fun e p=>e.set p.1 p.2) e
def updB:List (Nat×Box)→Boxes→Boxes
 | [],b=>b
 | (n,x) :: l,b=>updB l (setB b n x)
def upd (p:List (Nat×PV)×List (Nat×Box)) (s:ASt):ASt:=⟨Zjb p.1 s.env,updB p.2 s.boxes⟩
theorem lpP {step:σ→Option (σ ⊕ ρ)}{s:σ}{r:ρ}(n:Nat) (A:σ→List (Nat×PV)×List (Nat×Box))
  (k:∀ s x,Imp (step s=some x) (ZI tt T G kp c (upd (A s) st1) (QL (kp n) (fun s=>upd (A s) st1) Q r x)))
  (h1:Zcl (kp n) st=st1:=by first | (simp[-Int.ofNat_toNat,-Int.natCast_tdiv_eq_ediv,und,List.replicate, *] <;> rfl) | fail) (h2:st1=upd (A s) st1:=by simp[-Int.ofNat_toNat,-Int.natCast_tdiv_eq_ediv,upd,Zjb,updB, *]) (hn:firstId c=n:=by kernel_rfl):Imp (Ze step s=some r) (ZI tt T G kp (.loop c) st Q):=fun hr =>
 Xs (by rw[hn]) hr (h1.trans h2) fun s x hx=>k s x hx
end
end Go.Av
namespace Go.Lc
open Go.RowKit
open Go.Av
set_option linter.unusedVariables false
set_option linter.unusedSimpArgs false
theorem Z1 {σ ρ:Type}{step:σ→Option (σ ⊕ ρ)}{s s':σ}(h:step s=some (.inl s')):Ze step s=Ze step s' := by rw[ZmI,h]
theorem Xr {σ ρ:Type}{step:σ→Option (σ ⊕ ρ)}{s:σ}{x:Option ρ}(h:step s=x.map .inr):Ze step s=x:=by
 rw[ZmI,h];cases x <;> rfl
theorem Za9 {σ ρ:Type}{step:σ→Option (σ ⊕ ρ)}{s:σ}{r:ρ}(h:step s=some (.inr r)):Ze step s=some r:=by rw[ZmI,h]
theorem ZL {σ ρ:Type}{step:σ→Option (σ ⊕ ρ)}(enc:Nat→σ) (n:Nat){x:Option ρ}(h:∀ i,i<n→step (enc i)=some (.inl (enc (i+1)))) (he:step (enc n)=x.map .inr):Ze step (enc 0)=x:=by
 have key:∀ k,k≤n→Ze step (enc (n-k))=x:=by
  intro k;induction k with
  | zero=>intro _; exact Xr he
  | succ k ih =>
   intro hk;rw[Z1 (h (n-(k+1)) (by omega)),show n-(k+1)+1=n-k by omega];exact ih (by omega)
 have:=key n (Nat.le_refl _)
 rwa[Nat.sub_self] at this
theorem ZaE {σ ρ:Type}{step:σ→Option (σ ⊕ ρ)}(I:Nat→σ→Prop) (Q:ρ→Prop) (h:∀ i s,I i s→(∃ j s',j<i∧step s=some (.inl s')∧I j s')∨∃ r,step s=some (.inr r)∧Q r):∀ (n:Nat) (s:σ),I n s→∃ r,Ze step s=some r∧Q r:=by
 intro n;induction n using Nat.strongRecOn with
 | _ n ih =>
  intro s hs;rcases h n s hs with ⟨j,s',hj,h1,h2⟩ | ⟨r,h1,h2⟩
  ·obtain⟨r,h3,h4⟩:=ih j hj s' h2
   exact⟨r,(Z1 h1).trans h3,h4⟩
  ·exact⟨r,Za9 h1,h2⟩
def Tot {α:Type}(x:Option α) (Q:α→Prop):Prop:=∃ a,x=some a∧Q a
section
variable {α β:Type}{x:Option α}{f:α→Option β}{P:α→Prop}{Q:β→Prop}
theorem Tot.bind (h:Tot x P) (k:∀ a,P a→Tot (f a) Q):Tot (x.bind f) Q:=by
 obtain⟨a,rfl,ha⟩:=h;exact k a ha
theorem Tot.mono {P':α→Prop}(h:Tot x P) (k:∀ a,P a→P' a):Tot x P' := by
 obtain⟨a,h1,ha⟩:=h;exact⟨a,h1,k a ha⟩
theorem Zb {a:α}(h:P a):Tot (some a) P:=⟨a,rfl,h⟩
theorem Zf {c:Prop}[Decidable c]{a b:Option α}(h1:c→Tot a P) (h2:¬ c→Tot b P):Tot (if c then a else b) P:=by
 by_cases h:c
 ·rw[if_pos h]; exact h1 h
 ·rw[if_neg h]; exact h2 h
theorem Tot.inr {ρ σ:Type}{x:Option ρ}{Q:ρ→Prop}(h:Tot x Q):∃ r,(x.map Sum.inr:Option (σ ⊕ ρ))=some (.inr r)∧Q r:=by
 obtain⟨a,rfl,ha⟩:=h;exact⟨a,rfl,ha⟩
end
theorem Za {α β:Type}(a:α) (f:α→Option β):(some a).bind f=f a:=rfl
theorem Zj {p:Prop}[Decidable p]{α:Type}{f:Unit→Option α}(h:p):(chk p).bind f=f ():=by rw[Zxs h]; rfl
theorem Zxv {α:Type}{l:List α}{i:Nat}(h:i<l.length):idx l (i:Int)=some l[i]:=by simp[idx,h]
theorem Zi {α β:Type}{l:List α}{i:Nat}{f:α→Option β}(h:i<l.length):(idx l (i:Int)).bind f=f l[i]:=by rw[Zxv h]; rfl
theorem Zxw {n i:Nat}(h:i<n):inA n (i:Int)=some i:=by simp[inA,h]
theorem Yk {β:Type}{n i:Nat}{f:Nat→Option β}(h:i<n):(inA n (i:Int)).bind f=f i:=by rw[Zxw h]; rfl
theorem ZaV {α β:Type}{l:List α}{i:Nat}{f:α→Option β}(h:i<l.length):(l[i]?).bind f=f l[i]:=by rw[List.getElem?_eq_getElem h]; rfl
theorem wi (n:Int) (h:-9223372036854775808≤n∧n≤9223372036854775807):IntKind.i64.wrap n=n:=IntWalk.i64_in n h
theorem Zo {i n:Nat}(h:i<n) (hn:n≤9223372036854775807):IntKind.i64.wrap ((i:Int)+1)=((i+1:Nat):Int):=by rw[wi _ (by omega)]; omega
theorem wu (n:Int) (h:0≤n∧n≤18446744073709551615):IntKind.u64.wrap n=n:=IntWalk.u64_in n h
theorem Zp5 {α:Type}(f:Nat→α) (z:α){i k:Nat}(h:i<k):(((List.range i).map f)++List.replicate (k-i) z).set i (f i)=((List.range (i+1)).map f)++List.replicate (k-(i+1)) z:=by
 rw[List.set_append_right _ _ (by simp)];simp only[List.length_map,List.length_range,Nat.sub_self];rw[show k-i=(k-(i+1))+1 by omega,List.replicate_succ,List.set_cons_zero,List.range_succ,List.map_append];simp
theorem Zrn {α:Type}(f:Nat→α) (z:α){i k:Nat}(h:i≤k):(((List.range i).map f)++List.replicate (k-i) z).length=k:=by simp; omega
class Yw (α:Type) where
 force:{β:Type}→α→(α→β)→β
 eq:∀ {β:Type}(a:α) (k:α→β),force a k=k a
noncomputable def Zo9 {β:Type}(n:Nat) (k:Nat→β):β:=Nat.rec (motive:=fun _=>β) (k Nat.zero) (fun m _=>k (Nat.succ m)) n
theorem Zno {β:Type}(n:Nat) (k:Nat→β):Zo9 n k=k n:=by cases n <;> rfl
noncomputable instance:Yw Nat:=⟨Zo9,Zno⟩
noncomputable def ZuK {β:Type}(i:Int) (k:Int→β):β:=Int.rec (motive:=fun _=>β) (fun n=>Zo9 n fun m=>k (Int.ofNat m)) (fun n=>Zo9 n fun m=>k (Int.negSucc m)) i
theorem ZuL {β:Type}(i:Int) (k:Int→β):ZuK i k=k i:=by
 cases i with
 | ofNat n=>exact Zno n fun m=>k (Int.ofNat m)
 | negSucc n=>exact Zno n fun m=>k (Int.negSucc m)
noncomputable instance:Yw Int:=⟨ZuK,ZuL⟩
noncomputable def ZuM {β:Type}(b:Bool) (k:Bool→β):β:=Bool.rec (motive:=fun _=>β) (k false) (k true) b
theorem ZuN {β:Type}(b:Bool) (k:Bool→β):ZuM b k=k b:=by cases b <;> rfl
noncomputable instance:Yw Bool:=⟨ZuM,ZuN⟩
noncomputable instance:Yw Unit:=⟨fun _ k=>k (),fun _ _=>rfl⟩
noncomputable def ZuO {α γ β:Type}[Yw α] [Yw γ] (p:α×γ) (k:α×γ→β):β:=Prod.rec (motive:=fun _=>β) (fun a c=>Yw.force a fun a=>Yw.force c fun c=>k (a,c)) p
theorem ZuP {α γ β:Type}[Yw α] [Yw γ] (p:α×γ) (k:α×γ→β):ZuO p k=k p:=by
 obtain⟨a,c⟩:=p;exact(Yw.eq a _).trans (Yw.eq c _)
noncomputable instance {α γ:Type}[Yw α] [Yw γ]:Yw (α×γ):=⟨ZuO,ZuP⟩
noncomputable def Zro {α β:Type}[Yw α] (l:List α) (k:List α→β):β:=List.rec (motive:=fun _=>(List α→β)→β) (fun k=>k []) (fun a _ ih k=>Yw.force a fun a=>ih fun l=>k (a :: l)) l k
theorem Zp6 {α β:Type}[Yw α] (l:List α) (k:List α→β):Zro l k=k l:=by
 induction l generalizing k with
 | nil=>rfl
 | cons a l ih =>
  refine(Yw.eq (β:=β) a _).trans ?_;exact ih fun l=>k (a :: l)
noncomputable instance {α:Type}[Yw α]:Yw (List α):=⟨Zro,Zp6⟩
noncomputable def Zrp {n:Nat}{β:Type}(a:Arr n) (k:Arr n→β):β:=Zro a.l fun l=>if h:Nat.beq l.length n=true then k ⟨l,Nat.eq_of_beq_eq_true h⟩ else k a
theorem ZuQ {n:Nat}{β:Type}(a:Arr n) (k:Arr n→β):Zrp a k=k a:=by
 unfold Zrp;rw[Zp6];split <;> rfl
noncomputable instance {n:Nat}:Yw (Arr n):=⟨Zrp,ZuQ⟩
noncomputable def _root_.Option.bindF {α β:Type}[Yw α] (o:Option α) (f:α→Option β):Option β:=Option.rec (motive:=fun _=>Option β) none (fun x=>Yw.force x f) o
theorem Zwh {α β:Type}[Yw α] (o:Option α) (f:α→Option β):o.bindF f=o.bind f:=by
 cases o with
 | none=>rfl
 | some x=>exact Yw.eq x f
noncomputable def Zrq {σ ρ:Type}[Yw σ] (step:σ→Option (σ ⊕ ρ)) (s:σ):Option ρ :=
 Nat.rec (motive:=fun _=>σ→Option ρ) (fun _=>none) (fun _ ih s=>Option.rec (motive:=fun _=>Option ρ) none (fun x=>Sum.rec (motive:=fun _=>Option ρ) (fun s'=>Yw.force s' ih) (fun r=>some r) x) (step s)) 1000000 s
noncomputable instance {α γ:Type}[Yw α] [Yw γ]:Yw (α ⊕ γ):=⟨fun x k=>Sum.rec (motive:=fun _=>_) (fun a=>Yw.force a fun a=>k (.inl a)) (fun c=>Yw.force c fun c=>k (.inr c)) x,fun x k=>by cases x <;> exact Yw.eq _ _⟩
noncomputable instance {α:Type}[Yw α]:Yw (Option α):=⟨fun x k=>Option.rec (motive:=fun _=>_) (k none) (fun a=>Yw.force a fun a=>k (some a)) x,fun x k=>by cases x <;> first | rfl | exact Yw.eq _ _⟩
def Le {α:Type}(o o':Option α):Prop:=∀ x,o=some x→o'=some x
theorem Le.refl {α:Type}(o:Option α):Le o o:=fun _ h=>h
theorem Xi {α β:Type}[Yw α]{o o':Option α}{f f':α→Option β}(h:Le o o') (hf:∀ x,Le (f x) (f' x)):Le (o.bindF f) (o'.bind f'):=by
 intro y hy;rw[Zwh] at hy;obtain⟨x,hx,hy⟩:=Option.bind_eq_some_iff.1 hy;rw[h _ hx];exact hf x _ hy
theorem Zal {α β:Type}{o o':Option α}{f:α→β}(h:Le o o'):Le (o.map f) (o'.map f):=by
 intro y hy;obtain⟨x,hx,rfl⟩:=Option.map_eq_some_iff.1 hy;rw[h _ hx];rfl
theorem Zam {α:Type}{p:Prop}[Decidable p]{a a' b b':Option α}(h:Le a a') (h':Le b b'):Le (if p then a else b) (if p then a' else b'):=by
 split
 ·exact h
 ·exact h'
theorem Zan {σ ρ:Type}[Yw σ]{step step':σ→Option (σ ⊕ ρ)}{s:σ}(h:∀ s,Le (step s) (step' s)):Le (Zrq step s) (Ze step' s):=by
 have key:∀ (n:Nat) (s:σ) (r:ρ),(Nat.rec (motive:=fun _=>σ→Option ρ) (fun _=>none) (fun _ ih s=>Option.rec (motive:=fun _=>Option ρ) none (fun x=>Sum.rec (motive:=fun _=>Option ρ) (fun s'=>Yw.force s' ih) (fun r=>some r) x) (step s)) n s:Option ρ)=some r→Ze step' s=some r:=by
  intro n;induction n with
  | zero=>intro s r h; cases h
  | succ n ih =>
   intro s r hr;simp only at hr;rcases hs:step s with _ | (s' | r')
   ·rw[hs] at hr; cases hr
   ·rw[hs] at hr
    have hr:=(Yw.eq s' _).symm.trans hr;rw[Z1 (h s _ hs)];exact ih s' r hr
   ·rw[hs] at hr
    obtain rfl:=Option.some.inj hr;exact Za9 (h s _ hs)
 intro r hr;exact key 1000000 s r hr
class Lec {α:Type}(o o':Option α):Prop where
 h:Le o o'
end Go.Lc
namespace Go.Av
open Go.RowKit
open Go.Av
set_option linter.unusedVariables false
set_option linter.unusedSimpArgs false
section
open Go.Lc
theorem ZS {P:Program}{tt:TT}{T:Tab}{G:Glob}{kp:Keep}{w:Bool}{n:Nat}(hm:P.follows .mixedOrders=true) (htt:∀ t i,tt t=some i→Z0 P t=some i) (hT:∀ f F,T f=some F→Zd9 P G (f % 1000000) F){f:FuncId}{fn:Func}
  (hf:P.funcs[f]? = some fn) (hb:(fn.body.isSome && !(fn.name == "runtime.NumGoroutine"))=true):ZR P G f (ZN tt T G kp w n fn):=by
 obtain⟨h1,h2⟩:=Bool.and_eq_true_iff.1 hb;obtain⟨c,hc⟩:=Option.isSome_iff_exists.1 h1;exact ZnT hm htt hT hf hc (by simpa using h2) fun ps r _ h=>⟨_,_,_,h⟩
theorem Znp {P:Program}{G:Glob}{f:FuncId}{F F':List PV→Option (PV×List (List Cell))}(h:ZR P G f F) (hw:∀ ps r,F' ps=some r→F ps=some r):ZR P G f F' :=
 ⟨h.1,fun S w ks hh ps vs r outs a1 a2 a3 a4 hF=>h.2 S w ks hh ps vs r outs a1 a2 a3 a4 (hw _ _ hF)⟩
def ZtI (k:IntKind):PV→Option Int
 | .one (.v (.int k' i))=>if k=k' then some i else none
 | _=>none
theorem Zxx {k:IntKind}{p:PV}{i:Int}(h:ZtI k p=some i):p = .one (.v (.int k i)):=by
 unfold ZtI at h;split at h
 ·split at h
  ·rename_i e; subst e; cases h; rfl
  ·cases h
 ·cases h
def d1 {α:Type}(d:PV→Option α):List PV→Option α
 | [p]=>d p
 | _=>none
def d2 {α β:Type}(d:PV→Option α) (e:PV→Option β):List PV→Option (α×β)
 | [p,q]=>match d p,e q with
  | some x,some y=>some (x,y)
  | _,_=>none
 | _=>none
theorem ZzC {α:Type}{d:PV→Option α}{ea:α→PV}(h:∀ p x,d p=some x→p=ea x){ps:List PV}{x:α}(hx:d1 d ps=some x):ps=[ea x]:=by
 unfold d1 at hx;split at hx
 ·rw[h _ _ hx]
 ·cases hx
end
section
open Go.Lc
noncomputable def gvF {α β:Type}(dec:List PV→Option α) (g:α→Option β) (R:α→β→PV×List (List Cell)):List PV→Option (PV×List (List Cell)):=fun ps=>match dec ps with
 | some x=>(g x).map (R x)
 | none=>none
theorem Zwi {P:Program}{G:Glob}{f:FuncId}{α β:Type}{enc:α→List PV}{g g':α→Option β}{R:α→β→PV×List (List Cell)}(hi:∀ a b,enc a=enc b→a=b) (v:ZR P G f (Zab enc fun x=>(g x).map (R x))) (dec:List PV→Option α) (hd:∀ ps x,dec ps=some x→ps=enc x) (hle:∀ x,Le (g' x) (g x)):ZR P G f (gvF dec g' R):=by
 refine Znp v fun ps r h=>?_
 unfold gvF at h;split at h
 ·rename_i x hx
  obtain⟨y,hy,rfl⟩:=Option.map_eq_some_iff.1 h;rw[hd _ _ hx];exact YD hi (hle x y hy)
 ·cases h
end
end Go.Av
namespace Go.Lc
open Go.RowKit
open Go.Av
set_option linter.unusedVariables false
set_option linter.unusedSimpArgs false
section
set_option maxRecDepth 100000
noncomputable def Zg4 (a0:(List Tapi_Claim)):Option Bool :=
 some (decide ((a0.length:Int)≤64))
theorem Zmc (a0:(List Tapi_Claim)):Le (Zg4 a0) (Za2 a0):=by
 unfold Zg4 Za2;try dsimp only
 repeat' (first | (with_reducible exact Le.refl _) | (with_reducible refine Zan fun _=>?_) | (with_reducible refine Xi ?_ fun _=>?_) | (with_reducible refine Zam ?_ ?_) | (with_reducible refine Zal ?_))
noncomputable def Zg5 (a0:(List Tapi_Claim)):(Int×Int)→Option ((Int×Int) ⊕ (Bool))
 | (p5,p6)=>(if p6<(a0.length:Int) then(idx (a0) (p6)).bindF fun x8=>(if x8.1≤p5 then some (.inr (false)) else some (.inl (x8.1,IntKind.i64.wrap (p6+1)))) else(Zg4 a0).map Sum.inr)
theorem Zmd (a0:(List Tapi_Claim)) (s):Le (Zg5 a0 s) (Xg a0 s):=by
 obtain⟨p5,p6⟩:=s;unfold Zg5 Xg;try dsimp only
 repeat' (first | (with_reducible exact Le.refl _) | (with_reducible apply Zmc) | (with_reducible refine Zan fun _=>?_) | (with_reducible refine Xi ?_ fun _=>?_) | (with_reducible refine Zam ?_ ?_) | (with_reducible refine Zal ?_))
noncomputable def ZeD (a0:(List Tapi_Claim)):Option (Bool) :=
 Zrq (Zg5 a0) ((-1),0)
theorem Zg6 (a0:(List Tapi_Claim)):Le (ZeD a0) (YW a0):=by
 unfold ZeD YW;try dsimp only
 repeat' (first | (with_reducible exact Le.refl _) | (with_reducible apply Zmd) | (with_reducible refine Zan fun _=>?_) | (with_reducible refine Xi ?_ fun _=>?_) | (with_reducible refine Zam ?_ ?_) | (with_reducible refine Zal ?_))
noncomputable def ZfR (a0:Int) (a1:Int):Option (Bool) :=
 some (((decide (0≤a0) && decide (a0<a1)) && decide (a1≤16777216)))
theorem Zjk (a0:Int) (a1:Int):Le (ZfR a0 a1) (Xm a0 a1):=by
 unfold ZfR Xm;try dsimp only
 repeat' (first | (with_reducible exact Le.refl _) | (with_reducible refine Zan fun _=>?_) | (with_reducible refine Xi ?_ fun _=>?_) | (with_reducible refine Zam ?_ ?_) | (with_reducible refine Zal ?_))
noncomputable def XQ (a0:(List Tapi_Claim)):Option (List Tapi_Claim) :=
 (chk (a0.length≤3518437208883)).bindF fun _=>some (a0)
theorem ZfS (a0:(List Tapi_Claim)):Le (XQ a0) (Zu a0):=by
 unfold XQ Zu;try dsimp only
 repeat' (first | (with_reducible exact Le.refl _) | (with_reducible refine Zan fun _=>?_) | (with_reducible refine Xi ?_ fun _=>?_) | (with_reducible refine Zam ?_ ?_) | (with_reducible refine Zal ?_))
noncomputable def ZjF (a0:Int) (a1:(Arr 32)) (a2:Int) (a3:(List Tapi_Claim)):Option (Tapi_Dispute×Int) :=
 ((if (a3.length:Int)=0 then some (false) else(ZeD a3).bindF fun y1=>some (!(y1)))).bindF fun z2=>(if ((a3.length:Int)=0∨z2=true) then some (((0,0,zA 32,([]:(List Tapi_Claim))),6)) else(ZfR a0 a2).bindF fun y3=>(if ¬ (y3=true) then some (((0,0,zA 32,([]:(List Tapi_Claim))),5)) else(XQ a3).bindF fun y4=>some (((a0,a2,a1,y4),0))))
theorem Zn9 (a0:Int) (a1:(Arr 32)) (a2:Int) (a3:(List Tapi_Claim)):Le (ZjF a0 a1 a2 a3) (Zaf a0 a1 a2 a3):=by
 unfold ZjF Zaf;try dsimp only
 repeat' (first | (with_reducible exact Le.refl _) | (with_reducible apply Zg6) | (with_reducible apply Zjk) | (with_reducible apply ZfS) | (with_reducible refine Zan fun _=>?_) | (with_reducible refine Xi ?_ fun _=>?_) | (with_reducible refine Zam ?_ ?_) | (with_reducible refine Zal ?_))
noncomputable def Zfv (a0:Tapi_Dispute):Option (Bool) :=
 (ZfR a0.1 a0.2.1).bindF fun y1=>((if (y1=true∧0<(a0.2.2.2.length:Int)) then(ZeD a0.2.2.2).bindF fun y2=>some (y2) else some (false))).bindF fun z3=>some (((y1 && decide (0<(a0.2.2.2.length:Int))) && z3))
theorem ZhM (a0:Tapi_Dispute):Le (Zfv a0) (YU a0):=by
 unfold Zfv YU;try dsimp only
 repeat' (first | (with_reducible exact Le.refl _) | (with_reducible apply Zjk) | (with_reducible apply Zg6) | (with_reducible refine Zan fun _=>?_) | (with_reducible refine Xi ?_ fun _=>?_) | (with_reducible refine Zam ?_ ?_) | (with_reducible refine Zal ?_))
noncomputable def Zg7 (a0:Tapi_Dispute):Option (Int×Bool) :=
 (Zfv a0).bindF fun y1=>(if ¬ (y1=true) then some ((0,false)) else(if 1<IntKind.i64.wrap (a0.2.1-a0.1) then some ((IntKind.i64.wrap (a0.1+(IntKind.i64.wrap ((IntKind.i64.wrap (a0.2.1-a0.1)).tdiv 2))),false)) else some ((a0.2.1,true))))
theorem ZlD (a0:Tapi_Dispute):Le (Zg7 a0) (Xq a0):=by
 unfold Zg7 Xq;try dsimp only
 repeat' (first | (with_reducible exact Le.refl _) | (with_reducible apply ZhM) | (with_reducible refine Zan fun _=>?_) | (with_reducible refine Xi ?_ fun _=>?_) | (with_reducible refine Zam ?_ ?_) | (with_reducible refine Zal ?_))
noncomputable def Fdispute_agree_k1:Option Bool :=
 some (true)
theorem Fdispute_agree_k1_le:Le (Fdispute_agree_k1) (Ldispute_agree_k1):=by
 unfold Fdispute_agree_k1 Ldispute_agree_k1;try dsimp only
 repeat' (first | (with_reducible exact Le.refl _) | (with_reducible refine Zan fun _=>?_) | (with_reducible refine Xi ?_ fun _=>?_) | (with_reducible refine Zam ?_ ?_) | (with_reducible refine Zal ?_))
noncomputable def ZhN (a0:(List Tapi_Claim)):Int→Option ((Int) ⊕ (Bool))
 | p5=>(if p5<(a0.length:Int) then(idx (a0) (p5)).bindF fun x8=>((a0)[0]?).bindF fun x9=>(if ¬ (x8.2=x9.2) then some (.inr (false)) else some (.inl (IntKind.i64.wrap (p5+1)))) else(Fdispute_agree_k1).map Sum.inr)
theorem ZmP (a0:(List Tapi_Claim)) (s):Le (ZhN a0 s) (Zby a0 s):=by
 unfold ZhN Zby;try dsimp only
 repeat' (first | (with_reducible exact Le.refl _) | (with_reducible apply Fdispute_agree_k1_le) | (with_reducible refine Zan fun _=>?_) | (with_reducible refine Xi ?_ fun _=>?_) | (with_reducible refine Zam ?_ ?_) | (with_reducible refine Zal ?_))
noncomputable def ZhA (a0:(List Tapi_Claim)):Option (Bool) :=
 Zrq (ZhN a0) 0
theorem ZkB (a0:(List Tapi_Claim)):Le (ZhA a0) (Zag a0):=by
 unfold ZhA Zag;try dsimp only
 repeat' (first | (with_reducible exact Le.refl _) | (with_reducible apply ZmP) | (with_reducible refine Zan fun _=>?_) | (with_reducible refine Xi ?_ fun _=>?_) | (with_reducible refine Zam ?_ ?_) | (with_reducible refine Zal ?_))
noncomputable def ZeE (p47:(List Int)) (p69:Int) (p70:Int) (p71:(Arr 32)) (p72:(List Tapi_Claim)):Option (Tapi_Dispute×(List Int)×Int) :=
 some (((p69,p70,p71,p72),p47,0))
theorem Zme (p47:(List Int)) (p69:Int) (p70:Int) (p71:(Arr 32)) (p72:(List Tapi_Claim)):Le (ZeE p47 p69 p70 p71 p72) (YX p47 p69 p70 p71 p72):=by
 unfold ZeE YX;try dsimp only
 repeat' (first | (with_reducible exact Le.refl _) | (with_reducible refine Zan fun _=>?_) | (with_reducible refine Xi ?_ fun _=>?_) | (with_reducible refine Zam ?_ ?_) | (with_reducible refine Zal ?_))
noncomputable def Zg8 (p46:(List Tapi_Claim)) (p47:(List Int)) (y4:(Int×Bool)) (a0:Tapi_Dispute) (p45:(List Tapi_Claim)):Option (Tapi_Dispute×(List Int)×Int) :=
 (if (p46.length:Int)=0 then some (((0,0,zA 32,([]:(List Tapi_Claim))),([]:(List Int)),221)) else(ZhA p46).bindF fun y66=>(if y66=true then(chk (0<p46.length)).bindF fun _=>((p46)[0]?).bindF fun x74=>ZeE p47 y4.1 a0.2.1 x74.2 p45 else ZeE p47 a0.1 y4.1 a0.2.2.1 p46))
theorem Zmf (p46:(List Tapi_Claim)) (p47:(List Int)) (y4:(Int×Bool)) (a0:Tapi_Dispute) (p45:(List Tapi_Claim)):Le (Zg8 p46 p47 y4 a0 p45) (X7 p46 p47 y4 a0 p45):=by
 unfold Zg8 X7;try dsimp only
 repeat' (first | (with_reducible exact Le.refl _) | (with_reducible apply ZkB) | (with_reducible apply Zme) | (with_reducible refine Zan fun _=>?_) | (with_reducible refine Xi ?_ fun _=>?_) | (with_reducible refine Zam ?_ ?_) | (with_reducible refine Zal ?_))
noncomputable def ZeF (p81:Int) (p44:Int) (p90:(List Tapi_Claim)) (p91:(List Tapi_Claim)) (p92:(List Int)):Option ((Int×Int×(List Tapi_Claim)×(List Tapi_Claim)×(List Int)) ⊕ (Tapi_Dispute×(List Int)×Int)) :=
 some (.inl (p81,IntKind.i64.wrap (p44+1),p90,p91,p92))
theorem Zmg (p81:Int) (p44:Int) (p90:(List Tapi_Claim)) (p91:(List Tapi_Claim)) (p92:(List Int)):Le (ZeF p81 p44 p90 p91 p92) (YG p81 p44 p90 p91 p92):=by
 unfold ZeF YG;try dsimp only
 repeat' (first | (with_reducible exact Le.refl _) | (with_reducible refine Zan fun _=>?_) | (with_reducible refine Xi ?_ fun _=>?_) | (with_reducible refine Zam ?_ ?_) | (with_reducible refine Zal ?_))
noncomputable def Zg9 (p81:Int) (a1:(List Tapi_Claim)) (x75:Tapi_Claim) (p45:(List Tapi_Claim)) (p46:(List Tapi_Claim)) (p44:Int) (p47:(List Int)):Option ((Int×Int×(List Tapi_Claim)×(List Tapi_Claim)×(List Int)) ⊕ (Tapi_Dispute×(List Int)×Int)) :=
 ((if p81<(a1.length:Int) then(idx (a1) (p81)).bindF fun x84=>some (decide (x84.1=x75.1)) else some (false))).bindF fun z85=>(if (p81<(a1.length:Int)∧z85=true) then(chk (p45.length+1≤3518437208883)).bindF fun _=>(idx (a1) (p81)).bindF fun x94=>(chk (p46.length+1≤3518437208883)).bindF fun _=>ZeF p81 p44 (p45++[x75]) (p46++[x94]) p47 else(chk (p47.length+1≤17592186044416)).bindF fun _=>ZeF p81 p44 p45 p46 (p47++[x75.1]))
theorem Zmh (p81:Int) (a1:(List Tapi_Claim)) (x75:Tapi_Claim) (p45:(List Tapi_Claim)) (p46:(List Tapi_Claim)) (p44:Int) (p47:(List Int)):Le (Zg9 p81 a1 x75 p45 p46 p44 p47) (Xh p81 a1 x75 p45 p46 p44 p47):=by
 unfold Zg9 Xh;try dsimp only
 repeat' (first | (with_reducible exact Le.refl _) | (with_reducible apply Zmg) | (with_reducible refine Zan fun _=>?_) | (with_reducible refine Xi ?_ fun _=>?_) | (with_reducible refine Zam ?_ ?_) | (with_reducible refine Zal ?_))
noncomputable def Zha (a1:(List Tapi_Claim)) (x75:Tapi_Claim) (p45:(List Tapi_Claim)) (p46:(List Tapi_Claim)) (p44:Int) (p47:(List Int)):Int→Option ((Int) ⊕ ((Int×Int×(List Tapi_Claim)×(List Tapi_Claim)×(List Int)) ⊕ (Tapi_Dispute×(List Int)×Int)))
 | p81=>((if p81<(a1.length:Int) then(idx (a1) (p81)).bindF fun x97=>some (decide (x97.1<x75.1)) else some (false))).bindF fun z98=>(if (p81<(a1.length:Int)∧z98=true) then some (.inl (IntKind.i64.wrap (p81+1))) else(Zg9 p81 a1 x75 p45 p46 p44 p47).map Sum.inr)
theorem Zmi (a1:(List Tapi_Claim)) (x75:Tapi_Claim) (p45:(List Tapi_Claim)) (p46:(List Tapi_Claim)) (p44:Int) (p47:(List Int)) (s):Le (Zha a1 x75 p45 p46 p44 p47 s) (Zcx a1 x75 p45 p46 p44 p47 s):=by
 unfold Zha Zcx;try dsimp only
 repeat' (first | (with_reducible exact Le.refl _) | (with_reducible apply Zmh) | (with_reducible refine Zan fun _=>?_) | (with_reducible refine Xi ?_ fun _=>?_) | (with_reducible refine Zam ?_ ?_) | (with_reducible refine Zal ?_))
noncomputable def Zhb (a0:Tapi_Dispute) (a1:(List Tapi_Claim)) (y4:(Int×Bool)):(Int×Int×(List Tapi_Claim)×(List Tapi_Claim)×(List Int))→Option ((Int×Int×(List Tapi_Claim)×(List Tapi_Claim)×(List Int)) ⊕ (Tapi_Dispute×(List Int)×Int))
 | (p43,p44,p45,p46,p47)=>(if p44<(a0.2.2.2.length:Int) then(idx (a0.2.2.2) (p44)).bindF fun x75=>Zrq (Zha a1 x75 p45 p46 p44 p47) p43 else(Zg8 p46 p47 y4 a0 p45).map Sum.inr)
theorem Zmj (a0:Tapi_Dispute) (a1:(List Tapi_Claim)) (y4:(Int×Bool)) (s):Le (Zhb a0 a1 y4 s) (Zcy a0 a1 y4 s):=by
 obtain⟨p43,p44,p45,p46,p47⟩:=s;unfold Zhb Zcy;try dsimp only
 repeat' (first | (with_reducible exact Le.refl _) | (with_reducible apply Zmi) | (with_reducible apply Zmf) | (with_reducible refine Zan fun _=>?_) | (with_reducible refine Xi ?_ fun _=>?_) | (with_reducible refine Zam ?_ ?_) | (with_reducible refine Zal ?_))
noncomputable def Zjc (a0:Tapi_Dispute) (a1:(List Tapi_Claim)):Option (Tapi_Dispute×(List Int)×Int) :=
 (Zfv a0).bindF fun y1=>((if ¬ (y1=true) then some (false) else(ZeD a1).bindF fun y2=>some (!(y2)))).bindF fun z3=>(if (¬ (y1=true)∨z3=true) then some (((0,0,zA 32,([]:(List Tapi_Claim))),([]:(List Int)),6)) else(Zg7 a0).bindF fun y4=>(if y4.2=true then some (((0,0,zA 32,([]:(List Tapi_Claim))),([]:(List Int)),171)) else Zrq (Zhb a0 a1 y4) (0,0,[],[],[])))
theorem Znq (a0:Tapi_Dispute) (a1:(List Tapi_Claim)):Le (Zjc a0 a1) (XN a0 a1):=by
 unfold Zjc XN;try dsimp only
 repeat' (first | (with_reducible exact Le.refl _) | (with_reducible apply ZhM) | (with_reducible apply Zg6) | (with_reducible apply ZlD) | (with_reducible apply Zmj) | (with_reducible refine Zan fun _=>?_) | (with_reducible refine Xi ?_ fun _=>?_) | (with_reducible refine Zam ?_ ?_) | (with_reducible refine Zal ?_))
noncomputable def Zkv (a0:Tapi_Dispute):Option (Bool) :=
 (Zfv a0).bindF fun y1=>((if y1=true then(ZhA a0.2.2.2).bindF fun y2=>some (!(y2)) else some (false))).bindF fun z3=>some ((y1 && z3))
theorem ZoF (a0:Tapi_Dispute):Le (Zkv a0) (Zkq a0):=by
 unfold Zkv Zkq;try dsimp only
 repeat' (first | (with_reducible exact Le.refl _) | (with_reducible apply ZhM) | (with_reducible apply ZkB) | (with_reducible refine Zan fun _=>?_) | (with_reducible refine Xi ?_ fun _=>?_) | (with_reducible refine Zam ?_ ?_) | (with_reducible refine Zal ?_))
noncomputable def Ziv (a0:Int):Option Int :=
 (chk (0≤a0∧a0≤18446744073709551615)).bindF fun _=>some (Lib.bitLen a0.toNat:Int)
theorem Zm4 (a0:Int):Le (Ziv a0) (Yz a0):=by
 unfold Ziv Yz;try dsimp only
 repeat' (first | (with_reducible exact Le.refl _) | (with_reducible refine Zan fun _=>?_) | (with_reducible refine Xi ?_ fun _=>?_) | (with_reducible refine Zam ?_ ?_) | (with_reducible refine Zal ?_))
noncomputable def Zjd (a0:Int) (a1:Int):Option (Int) :=
 (if a1≤a0 then some (0) else(Ziv (IntKind.u64.wrap ((IntKind.u64.wrap ((IntKind.u64.wrap (a1))-(IntKind.u64.wrap (a0))))-1))).bindF fun y1=>some (y1))
theorem Znr (a0:Int) (a1:Int):Le (Zjd a0 a1) (Zau a0 a1):=by
 unfold Zjd Zau;try dsimp only
 repeat' (first | (with_reducible exact Le.refl _) | (with_reducible apply Zm4) | (with_reducible refine Zan fun _=>?_) | (with_reducible refine Xi ?_ fun _=>?_) | (with_reducible refine Zam ?_ ?_) | (with_reducible refine Zal ?_))
noncomputable def Flaw22_sane:Option (Bool) :=
 (ZjF 0 (zA 32) 8 [(1,(zA 32).put 0 1),(4,(zA 32).put 0 2)]).bindF fun y1=>(Zg7 y1.1).bindF fun y2=>(Zjc y1.1 [(1,(zA 32).put 0 1),((4,(zA 32).put 0 2).1,(1,(zA 32).put 0 1).2)]).bindF fun y3=>(Zg7 y3.1).bindF fun y4=>((if (y1.2=0∧y3.2.2=0) then(Zkv y1.1).bindF fun y5=>some (y5) else some (false))).bindF fun z6=>((if ((((((y1.2=0∧y3.2.2=0)∧z6=true)∧y2.1=4)∧¬ (y2.2=true))∧(y3.2.1.length:Int)=0)∧y4.1=6) then(Zjd 0 8).bindF fun y7=>some (decide (y7=3)) else some (false))).bindF fun z8=>some ((((((((decide (y1.2=0) && decide (y3.2.2=0)) && z6) && decide (y2.1=4)) && !(y2.2)) && decide ((y3.2.1.length:Int)=0)) && decide (y4.1=6)) && z8))
theorem Flaw22_sane_le:Le (Flaw22_sane) (Llaw22_sane):=by
 unfold Flaw22_sane Llaw22_sane;try dsimp only
 repeat' (first | (with_reducible exact Le.refl _) | (with_reducible apply Zn9) | (with_reducible apply ZlD) | (with_reducible apply Znq) | (with_reducible apply ZoF) | (with_reducible apply Znr) | (with_reducible refine Zan fun _=>?_) | (with_reducible refine Xi ?_ fun _=>?_) | (with_reducible refine Zam ?_ ?_) | (with_reducible refine Zal ?_))
theorem sane22F:Flaw22_sane=some true:=by kernel_rfl
theorem sane22:Llaw22_sane=some true:=Flaw22_sane_le _ sane22F
end
end Go.Lc
namespace Go.Av
open Go.RowKit
open Go.Av
set_option linter.unusedVariables false
set_option linter.unusedSimpArgs false
theorem ZuR {x:Int}(h:(Lit.int .u8 x).wf=true):0≤x∧x≤255:=by simpa[Lit.wf,IntKind.has,IntKind.min,IntKind.max,IntKind.signed,IntKind.bits] using h
end Go.Av
namespace Go.Lc
open Go.RowKit
open Go.Av
set_option linter.unusedVariables false
set_option linter.unusedSimpArgs false
theorem Zp7 (bad:Nat→Prop):∀ n,(∃ i,i<n∧bad i)→∃ m,m<n∧bad m∧∀ j,j<m→¬ bad j:=by
 classical
 intro n;induction n with
 | zero=>rintro⟨i,h,_⟩; omega
 | succ n ih =>
  intro h;by_cases hx:∃ i,i<n∧bad i
  ·obtain⟨m,h1,h2,h3⟩:=ih hx
   exact⟨m,by omega,h2,h3⟩
  ·obtain⟨i,hi,hb⟩:=h
   have:i=n:=by
    rcases Nat.lt_or_ge i n with h' | h'
    ·exact absurd ⟨i,h',hb⟩ hx
    ·omega
   subst this;exact⟨i,by omega,hb,fun j hj hb=>hx ⟨j,hj,hb⟩⟩
theorem Zrr {σ ρ:Type}{step:σ→Option (σ ⊕ ρ)}(enc:Nat→σ) (n:Nat) (bad:Nat→Prop) (rb x:Option ρ) (h:∀ i,i<n→¬ bad i→step (enc i)=some (.inl (enc (i+1)))) (hb:∀ i,i<n→bad i→step (enc i)=rb.map .inr) (he:step (enc n)=x.map .inr):Ze step (enc 0)=(by classical exact if ∃ i,i<n∧bad i then rb else x):=by
 classical
 by_cases hx:∃ i,i<n∧bad i
 ·rw[if_pos hx]
  obtain⟨m,hm,hbm,hmin⟩:=Zp7 bad n hx;exact ZL enc m (fun i hi=>h i (by omega) (hmin i hi)) (hb m hm hbm)
 ·rw[if_neg hx]
  exact ZL enc n (fun i hi=>h i hi fun hbi=>hx ⟨i,hi,hbi⟩) he
theorem ZuS {σ ρ α:Type}{step:σ→Option (σ ⊕ ρ)}(enc:Nat→σ) (l:List α) (bad:α→Prop) (rb x:Option ρ) (h:∀ i (hi:i<l.length),¬ bad l[i]→step (enc i)=some (.inl (enc (i+1)))) (hb:∀ i (hi:i<l.length),bad l[i]→step (enc i)=rb.map .inr) (he:step (enc l.length)=x.map .inr):Ze step (enc 0)=(by classical exact if ∃ a∈l,bad a then rb else x):=by
 classical
 rw[Zrr enc l.length (fun i=>∃ hi:i<l.length,bad l[i]) rb x (fun i hi hn=>h i hi fun hb=>hn ⟨hi,hb⟩) (fun i hi ⟨_,hbi⟩=>hb i hi hbi) he]
 have:(∃ i,i<l.length∧∃ hi:i<l.length,bad l[i])↔∃ a∈l,bad a:=by
  constructor
  ·rintro⟨i,_,hi,hb⟩
   exact⟨_,List.getElem_mem hi,hb⟩
  ·rintro⟨a,ha,hb⟩
   obtain⟨i,hi,rfl⟩:=List.getElem_of_mem ha;exact⟨i,hi,hi,hb⟩
 simp only[this]
theorem ZeS {σ ρ α:Type}{step:σ→Option (σ ⊕ ρ)}(enc:Nat→σ) (l:List α) (bad:α→Prop) (rb x:Option ρ) [inst:Decidable (∃ a∈l,bad a)] (h:∀ i (hi:i<l.length),¬ bad l[i]→step (enc i)=some (.inl (enc (i+1)))) (hb:∀ i (hi:i<l.length),bad l[i]→step (enc i)=rb.map .inr) (he:step (enc l.length)=x.map .inr){s:σ}(hs:s=enc 0):Ze step s=if ∃ a∈l,bad a then rb else x:=by
 subst hs;rw[ZuS enc l bad rb x h hb he];split
 ·rfl
 ·rfl
theorem Zbq {α β:Type}{l:List α}(f:α→List β){i:Nat}(h:i<l.length):(l.take (i+1)).flatMap f=(l.take i).flatMap f++f l[i]:=by
 rw[List.take_succ_eq_append_getElem h,List.flatMap_append];simp
theorem ZeG {α β:Type}(l:List α) (f:α→List β) (i:Nat):((l.take i).flatMap f).length≤(l.flatMap f).length:=by
 conv=>rhs; rw[← List.take_append_drop i l]
 rw[List.flatMap_append,List.length_append];omega
def Yl (n:Int) (k:Nat):List Int:=(List.range k).map fun i=>IntKind.u8.wrap (n.fdiv (2 ^ (8 * i)))
@[simp] theorem ZeT (n:Int) (k:Nat):(Yl n k).length=k:=by simp[Yl]
theorem ZsB {i:Nat}(h:i<8):min (IntKind.i64.wrap (8 * (i:Int))).toNat 64=8 * i:=by
 rw[wi _ (by omega)];omega
theorem Zns (n:Int) (k:Nat) (hk:k≤8):Xo n k=some (Yl n k):=by
 unfold Xo;rw[Zj (by omega)]
 have:=ZL (step:=ZdJ k n) (fun i=>((i:Int),((List.range i).map fun i=>IntKind.u8.wrap (n.fdiv (2 ^ (8 * i))))++List.replicate (k-i) 0)) k (x:=some (Yl n k)) (fun i hi=>by
  simp only[ZdJ];rw[if_pos (by omega),Zj (by rw[wi _ (by omega)]; omega),Zrn _ _ (by omega),Yk hi,ZsB (by omega),Zp5 (fun i=>IntKind.u8.wrap (n.fdiv (2 ^ (8 * i)))) 0 hi,Zo hi (by omega)]) (by
  simp only[ZdJ];rw[if_neg (by omega)]
  simp[ZfF,Yl])
 simpa using this
theorem ZiI (n:Int) (k:Nat) (hk:k≤8):Yh n k=some (Yl n k):=by
 unfold Yh;rw[Zj (by omega)]
 have:=ZL (step:=ZdK k n) (fun i=>((i:Int),((List.range i).map fun i=>IntKind.u8.wrap (n.fdiv (2 ^ (8 * i))))++List.replicate (k-i) 0)) k (x:=some (Yl n k)) (fun i hi=>by
  simp only[ZdK];rw[if_pos (by simp; omega),Zj (by rw[wi _ (by omega)]; omega),Zrn _ _ (by omega),Yk hi,ZsB (by omega),Zp5 (fun i=>IntKind.u8.wrap (n.fdiv (2 ^ (8 * i)))) 0 hi,Zo hi (by omega)]) (by
  simp only[ZdK];rw[if_neg (by simp)]
  simp[ZfH,Yl])
 simpa using this
theorem ZeH {a b:List Int}(h:a.length+b.length≤140737488355328):YJ a b=some (a++b):=by
 unfold YJ;rw[wi _ (by omega),Zj (by omega),Zj (by omega),Zj (by omega)]
theorem X8 {a b:List Int}(h:a.length+b.length≤140737488355328):Yg a b=some (a++b):=by
 unfold Yg;rw[wi _ (by omega),Zj (by omega),Zj (by omega),Zj (by omega)]
section
variable {b:List Int}{n:Int}
theorem Zje (h:b.length≤140737488355000):Z9 b n=some (b++Yl (IntKind.u64.wrap n) 4):=by
 unfold Z9;have this:Xo (IntKind.u64.wrap n) 4=some (Yl (IntKind.u64.wrap n) 4):=Zns _ 4 (by omega);rw[this,Za,ZeH (by simp; omega)];rfl
theorem ZuT (h:b.length≤140737488355000):ZaL b n=some (b++Yl n 8):=by
 unfold ZaL;have this:Xo n 8=some (Yl n 8):=Zns _ 8 (by omega);rw[this,Za,ZeH (by simp; omega)];rfl
theorem Zyv (h:b.length≤140737488355000):ZbR b n=some (b++Yl (IntKind.u64.wrap n) 2):=by
 unfold ZbR;have this:Xo (IntKind.u64.wrap n) 2=some (Yl (IntKind.u64.wrap n) 2):=Zns _ 2 (by omega);rw[this,Za,ZeH (by simp; omega)];rfl
theorem Zeq (h:b.length≤140737488355000):Z2 b n=some (b++Yl (IntKind.u64.wrap n) 4):=by
 unfold Z2;have this:Yh (IntKind.u64.wrap n) 4=some (Yl (IntKind.u64.wrap n) 4):=ZiI _ 4 (by omega);rw[this,Za,X8 (by simp; omega)];rfl
theorem Zxy (h:b.length≤140737488355000):ZbS b n=some (b++Yl n 8):=by
 unfold ZbS;have this:Yh n 8=some (Yl n 8):=ZiI _ 8 (by omega);rw[this,Za,X8 (by simp; omega)];rfl
def Za6 (n:Int):List Int:=if n<253 then Yl n 1 else if n<65536 then 253 :: Yl n 2 else if n<4294967296 then 254 :: Yl n 4 else 255 :: Yl n 8
theorem Za4 (n:Int):(Za6 n).length≤9:=by
 unfold Za6;split
 ·simp
 ·split
  ·simp
  ·split <;> simp
theorem ZkW (h0:0≤n∧n≤18446744073709551615) (h:b.length≤140737488354900):YB b n=some (b++Za6 n):=by
 unfold YB Za6;split
 ·rw[ZeH (by simp; omega)]
  simp[Yl]
 ·split
  ·rw[ZeH (by simp; omega),Za,Zyv (by simp; omega),IntWalk.u16_in _ (by omega),wu _ (by omega)]
   simp
  ·split
   ·rw[ZeH (by simp; omega),Za,Zje (by simp; omega),IntWalk.u32_in _ (by omega),wu _ (by omega)]
    simp
   ·rw[ZeH (by simp; omega),Za,ZuT (by simp; omega)]
    simp
theorem Zlm (h0:0≤n∧n≤18446744073709551615) (h:b.length≤140737488354900):YQ b n=some (b++Za6 n):=by
 have l1:Yh n 1=some (Yl n 1):=ZiI n 1 (by omega);have l2:Yh n 2=some (Yl n 2):=ZiI n 2 (by omega);have l4:Yh n 4=some (Yl n 4):=ZiI n 4 (by omega);have l8:Yh n 8=some (Yl n 8):=ZiI n 8 (by omega);unfold YQ Za6;split
 ·rw[l1,Za,X8 (by simp; omega)]
  rfl
 ·split
  ·rw[l2,Za,X8 (by simp),Za,X8 (by simp; omega)]
   rfl
  ·split
   ·rw[l4,Za,X8 (by simp),Za,X8 (by simp; omega)]
    rfl
   ·rw[l8,Za,X8 (by simp),Za,X8 (by simp; omega)]
    rfl
end
def bytesB (s:List Int):List Int:=Za6 s.length++s
theorem ZkM (s:List Int):(bytesB s).length≤9+s.length:=by
 have:=Za4 s.length;simp[bytesB]
 omega
theorem Zgx {n:Nat}(h:n≤140737488355328):IntKind.u64.wrap (n:Int)=n:=wu _ (by omega)
theorem Znt {b s:List Int}(h:b.length+s.length≤140737488354900):Xf b s=some (b++bytesB s):=by
 unfold Xf;have:=Za4 s.length;rw[Zgx (by omega),ZkW (by omega) (by omega),Za,ZeH (by simp; omega)];simp[bytesB]
theorem Zp8 {b s:List Int}(h:b.length+s.length≤140737488354900):XU b s=some (b++bytesB s):=by
 unfold XU;have:=Za4 s.length;rw[Zgx (by omega),Zlm (by omega) (by omega),Za,X8 (by simp; omega)];simp[bytesB]
theorem ZpC {b:List Int}{a:Arr 32}(h:b.length≤140737488355000):Xv b a=some (b++a.l):=by
 unfold Xv;rw[ZeH (by rw[a.hl]; omega)];rfl
theorem ZjG {b:List Int}{a:Arr 32}(h:b.length≤140737488355000):YC b a=some (b++a.l):=by
 unfold YC;rw[X8 (by rw[a.hl]; omega)];rfl
def Zj8 (o:Tapi_OutPoint):List Int:=o.1.l++Yl (IntKind.u64.wrap o.2) 4
@[simp] theorem ZmQ (o:Tapi_OutPoint):(Zj8 o).length=36:=by simp[Zj8,o.1.hl]
theorem Zrs (o:Tapi_OutPoint):Zfy o=some (Zj8 o):=by
 unfold Zfy;rw[ZpC (by simp),Za,Zje (by simp[o.1.hl])];rfl
theorem Zp9 (o:Tapi_OutPoint):ZdL o=some (Zj8 o):=by
 unfold ZdL;rw[ZjG (by simp),Za,Zeq (by simp[o.1.hl])];rfl
def inB (x:Tapi_Input):List Int:=Zj8 x.1++Yl (IntKind.u64.wrap x.2.1) 4
@[simp] theorem Zxz (x:Tapi_Input):(inB x).length=40:=by simp[inB]
def Zhc (o:Tapi_Output):List Int:=Yl (IntKind.u64.wrap o.1) 8++bytesB o.2
def Znu (x:Tapi_Input):List Int:=Za6 x.2.2.length++x.2.2.flatMap bytesB
def ZlE (t:Tapi_Tx):List Int:=Yl (IntKind.u64.wrap t.1) 4++Za6 t.2.1.length
def Xd (t:Tapi_Tx) (w:Bool):List Int:=ZlE t++t.2.1.flatMap inB++Za6 t.2.2.1.length++t.2.2.1.flatMap Zhc++Yl (IntKind.u64.wrap t.2.2.2) 4++(if w then t.2.1.flatMap Znu else[])
def ZaW (t:Tapi_Tx):Nat:=100+(t.2.1.map fun x=>60+(x.2.2.map fun s=>20+s.length).sum).sum+(t.2.2.1.map fun o=>60+o.2.length).sum
theorem Zmk {α β:Type}(f:α→List β) (g:α→Nat) (h:∀ a,(f a).length≤g a) (l:List α):(l.flatMap f).length≤(l.map g).sum:=by
 induction l with
 | nil=>simp
 | cons a l ih =>
  simp only[List.flatMap_cons,List.length_append,List.map_cons,List.sum_cons];have:=h a;omega
theorem ZmR {α:Type}(g:α→Nat){l:List α}{a:α}(h:a∈l):g a≤(l.map g).sum:=by
 induction l with
 | nil=>simp at h
 | cons b l ih =>
  simp only[List.map_cons,List.sum_cons];rcases List.mem_cons.1 h with rfl | h
  ·omega
  ·have:=ih h
   omega
theorem Zln {α:Type}(g:α→Nat) (c:Nat) (h:∀ a,c≤g a) (l:List α):c * l.length≤(l.map g).sum:=by
 induction l with
 | nil=>simp
 | cons a l ih =>
  have:=h a;simp only[List.map_cons,List.sum_cons,List.length_cons,Nat.mul_add];omega
theorem ZxA (x:Tapi_Input):(Znu x).length≤9+(x.2.2.map fun s=>20+s.length).sum:=by
 have h1:=Za4 x.2.2.length;have h2:=Zmk bytesB (fun s=>20+s.length) (fun s=>by have:=ZkM s; omega) x.2.2;simp only[Znu,List.length_append];omega
theorem ZxB (o:Tapi_Output):(Zhc o).length≤20+o.2.length:=by
 have:=ZkM o.2;simp only[Zhc,List.length_append,ZeT];omega
section
variable {t:Tapi_Tx}{w:Bool}
def Zhd (t:Tapi_Tx) (i:Nat):List Int:=ZlE t++(t.2.1.take i).flatMap inB
def Zhe (t:Tapi_Tx) (i:Nat):List Int:=ZlE t++t.2.1.flatMap inB++Za6 t.2.2.1.length++(t.2.2.1.take i).flatMap Zhc
def ZfT (t:Tapi_Tx) (i:Nat):List Int:=ZlE t++t.2.1.flatMap inB++Za6 t.2.2.1.length++t.2.2.1.flatMap Zhc++Yl (IntKind.u64.wrap t.2.2.2) 4++(t.2.1.take i).flatMap Znu
theorem ZpD (t:Tapi_Tx):(t.2.1.flatMap inB).length+(t.2.1.flatMap Znu).length≤(t.2.1.map fun x=>60+(x.2.2.map fun s=>20+s.length).sum).sum:=by
 induction t.2.1 with
 | nil=>simp
 | cons x l ih =>
  have:=ZxA x;simp only[List.flatMap_cons,List.length_append,List.map_cons,List.sum_cons,Zxz];omega
theorem Zrt (t:Tapi_Tx):(t.2.2.1.flatMap Zhc).length≤(t.2.2.1.map fun o=>60+o.2.length).sum:=Zmk Zhc _ (fun o=>by have:=ZxB o; omega) _
theorem Znv (t:Tapi_Tx):(ZlE t).length≤13:=by
 have:=Za4 t.2.1.length;simp only[ZlE,List.length_append,ZeT];omega
theorem ZpE (i:Nat):(Zhd t i).length+50≤ZaW t:=by
 have h1:=Znv t;have h2:=ZeG t.2.1 inB i;have h3:=ZpD t;simp only[Zhd,ZaW,List.length_append];omega
theorem Zml (i:Nat):(Zhe t i).length+50≤ZaW t:=by
 have h1:=Znv t;have h2:=ZeG t.2.2.1 Zhc i;have h3:=ZpD t;have h4:=Zrt t;have h5:=Za4 t.2.2.1.length;simp only[Zhe,ZaW,List.length_append];omega
theorem ZpF (i:Nat):(ZfT t i).length+50≤ZaW t:=by
 have h1:=Znv t;have h2:=ZeG t.2.1 Znu i;have h3:=ZpD t;have h4:=Zrt t;have h5:=Za4 t.2.2.1.length;simp only[ZfT,ZaW,List.length_append,ZeT];omega
theorem ZjH (t:Tapi_Tx):t.2.1.length≤ZaW t:=by
 have:=Zln (fun x:Tapi_Input=>60+(x.2.2.map fun s=>20+s.length).sum) 60 (fun x=>by omega) t.2.1;unfold ZaW;omega
theorem Zqa (t:Tapi_Tx):t.2.2.1.length≤ZaW t:=by
 have:=Zln (fun o:Tapi_Output=>60+o.2.length) 60 (fun x=>by omega) t.2.2.1;unfold ZaW;omega
theorem ZsC {x:Tapi_Input}(h:x∈t.2.1):60+(x.2.2.map fun s=>20+s.length).sum≤ZaW t:=by
 have:=ZmR (fun x:Tapi_Input=>60+(x.2.2.map fun s=>20+s.length).sum) h;unfold ZaW;omega
theorem Zru {o:Tapi_Output}(h:o∈t.2.2.1):60+o.2.length≤ZaW t:=by
 have:=ZmR (fun o:Tapi_Output=>60+o.2.length) h;unfold ZaW;omega
theorem ZlF {x:Tapi_Input}(h:x∈t.2.1):x.2.2.length≤ZaW t:=by
 have h1:=ZsC h;have:=Zln (fun s:List Int=>20+s.length) 20 (fun x=>by omega) x.2.2;omega
theorem Zrv {x:Tapi_Input}(h:x∈t.2.1){s:List Int}(hs:s∈x.2.2):20+s.length≤ZaW t:=by
 have h1:=ZsC h;have:=ZmR (fun s:List Int=>20+s.length) hs;omega
end
section
variable {t:Tapi_Tx}{w:Bool}
theorem Znw {i:Nat}(h:i<t.2.1.length):ZfT t (i+1)=ZfT t i++Za6 (t.2.1[i]).2.2.length++(t.2.1[i]).2.2.flatMap bytesB:=by
 simp only[ZfT,Zbq Znu h,Znu,List.append_assoc]
theorem Zrw {i:Nat}(h:i<t.2.1.length):(ZfT t i++Za6 (t.2.1[i]).2.2.length).length+((t.2.1[i]).2.2.flatMap bytesB).length+50≤ZaW t:=by
 have:=ZpF (t:=t) (i+1);rw[Znw h] at this;simp only[List.length_append] at this ⊢;omega
theorem ZsD {x:Tapi_Input}{j:Nat}(h:j<x.2.2.length):((x.2.2.take j).flatMap bytesB).length+(bytesB x.2.2[j]).length≤(x.2.2.flatMap bytesB).length:=by
 have:=ZeG x.2.2 bytesB (j+1);rw[Zbq bytesB h] at this;simpa using this
theorem ZxC (hM:ZaW t≤1000000000000){i:Nat}(h:i<t.2.1.length){q:List Int}(hq:q.length+((t.2.1[i]).2.2.flatMap bytesB).length+50≤ZaW t) :
  Ze (Zee t.2.1[i] (i:Int)) (0,q)=some (.inl (((i+1:Nat):Int),q++(t.2.1[i]).2.2.flatMap bytesB)):=by
 have hmem:=List.getElem_mem h;have hwl:=ZlF hmem;have hil:=ZjH t;generalize t.2.1[i]=x at hq hmem hwl ⊢
 have:=ZL (step:=Zee x (i:Int)) (fun j=>((j:Int),q++(x.2.2.take j).flatMap bytesB)) x.2.2.length (x:=some (.inl (((i+1:Nat):Int),q++x.2.2.flatMap bytesB))) (fun j hj=>by
  simp only[Zee];have h1:=ZsD hj;have h2:=Zrv hmem (List.getElem_mem hj);rw[if_pos (by omega),Zi hj,Znt (by simp; omega),Za,Zj (by simp only[List.length_append,List.nil_append]; omega),Zo hj (by omega),Zbq bytesB hj];simp) (by
  simp only[Zee];rw[if_neg (by omega)]
  simp only[ZcU,List.take_length,Zo h (by omega)])
 simpa using this
theorem ZzD (hM:ZaW t≤1000000000000):ZbA t (Zhe t t.2.2.1.length) w=some (Xd t w):=by
 have hil:=ZjH t;have h2:=Zml (t:=t) t.2.2.1.length;unfold ZbA;rw[Zje (by simp),Za,Zj (by simp; omega)];have he:Zhe t t.2.2.1.length++([]++Yl (IntKind.u64.wrap t.2.2.2) 4)=ZfT t 0:=by simp[Zhe,ZfT]
 rw[he];cases w with
 | false=>simp[Xd,ZfT]
 | true =>
  rw[if_neg (by simp)]
  have:=ZL (step:=ZfX t) (fun i=>((i:Int),ZfT t i)) t.2.1.length (x:=some (Xd t true)) (fun i hi=>by
   have h3:=Zrw hi;have h5:=ZlF (List.getElem_mem hi);simp only[ZfX];rw[if_pos (by omega),Zi hi,Zgx (by omega),ZkW (by omega) (by simp),Za,Zj (by simp only[List.length_append,List.nil_append] at h3 ⊢; omega),List.nil_append,ZxC hM hi h3,Znw hi]) (by
   simp only[ZfX];rw[if_neg (by omega)]
   simp[ZcT,ZfT,Xd])
  simpa using this
theorem Zqb {i:Nat}(h:i<t.2.2.1.length):Zhe t (i+1)=Zhe t i++Yl (IntKind.u64.wrap (t.2.2.1[i]).1) 8++bytesB (t.2.2.1[i]).2:=by
 simp only[Zhe,Zbq Zhc h,Zhc,List.append_assoc]
theorem ZzE (hM:ZaW t≤1000000000000):ZbB t (Zhd t t.2.1.length) w=some (Xd t w):=by
 have hol:=Zqa t;have h2:=Zml (t:=t) 0;have h1:=Za4 t.2.2.1.length;have he:Zhd t t.2.1.length++Za6 t.2.2.1.length=Zhe t 0:=by simp[Zhd,Zhe]
 unfold ZbB;rw[Zgx (by omega),ZkW (by omega) (by simp),Za,List.nil_append,Zj (by rw[← List.length_append,he]; omega),he]
 have:=ZL (step:=ZfY t w) (fun i=>((i:Int),Zhe t i)) t.2.2.1.length (x:=some (Xd t w)) (fun i hi=>by
  have h3:=Zml (t:=t) (i+1);have h4:=Zru (List.getElem_mem hi);rw[Zqb hi] at h3 ⊢;simp only[List.length_append,ZeT] at h3;simp only[ZfY];rw[if_pos (by omega),Zi hi,ZuT (by simp),Za,Zj (by simp; omega),Znt (by simp; omega),Za,Zj (by simp; omega),Zo hi (by omega)];simp) (by
  simp only[ZfY]
  rw[if_neg (by omega),ZzD hM])
 simpa using this
theorem Zqc {i:Nat}(h:i<t.2.1.length):Zhd t (i+1)=Zhd t i++Zj8 (t.2.1[i]).1++Yl (IntKind.u64.wrap (t.2.1[i]).2.1) 4:=by
 simp only[Zhd,Zbq inB h,inB,List.append_assoc]
theorem ZlG (hM:ZaW t≤1000000000000):ZfG t w=some (Xd t w):=by
 have hil:=ZjH t;have h1:=Za4 t.2.1.length;have he:Yl (IntKind.u64.wrap t.1) 4++Za6 t.2.1.length=Zhd t 0:=by simp[Zhd,ZlE]
 unfold ZfG;rw[Zje (by simp),Za,Zgx (by omega),ZkW (by omega) (by simp),Za,List.nil_append,List.nil_append,Zj (by simp; omega),he]
 have:=ZL (step:=ZfZ t w) (fun i=>((i:Int),Zhd t i)) t.2.1.length (x:=some (Xd t w)) (fun i hi=>by
  have h3:=ZpE (t:=t) (i+1);rw[Zqc hi] at h3 ⊢;simp only[List.length_append,ZeT,ZmQ] at h3;simp only[ZfZ];rw[if_pos (by omega),Zi hi,Zrs,Za,Zj (by simp; omega),Zje (by simp),Za,Zj (by simp; omega),Zo hi (by omega)];simp) (by
  simp only[ZfZ]
  rw[if_neg (by omega),ZzE hM])
 simpa using this
theorem ZpG {o:Tapi_Output}(h:o.2.length≤140737488354000):Zew o=some (Zhc o):=by
 unfold Zew;rw[Zxy (by simp),Za,Zp8 (by simp; omega)];rfl
theorem Zwj (hM:ZaW t≤1000000000000){i:Nat}(h:i<t.2.1.length){q:List Int}(hq:q.length+((t.2.1[i]).2.2.flatMap bytesB).length+50≤ZaW t) :
  Ze (ZbT t.2.1[i] (i:Int)) (0,q)=some (.inl (((i+1:Nat):Int),q++(t.2.1[i]).2.2.flatMap bytesB)):=by
 have hmem:=List.getElem_mem h;have hwl:=ZlF hmem;have hil:=ZjH t;generalize t.2.1[i]=x at hq hmem hwl ⊢
 have:=ZL (step:=ZbT x (i:Int)) (fun j=>((j:Int),q++(x.2.2.take j).flatMap bytesB)) x.2.2.length (x:=some (.inl (((i+1:Nat):Int),q++x.2.2.flatMap bytesB))) (fun j hj=>by
  simp only[ZbT];have h1:=ZsD hj;have h2:=Zrv hmem (List.getElem_mem hj);rw[if_pos (by omega),Zi hj,Zp8 (by simp only[List.length_append]; omega),Za,Zo hj (by omega),Zbq bytesB hj];simp) (by
  simp only[ZbT];rw[if_neg (by omega)]
  simp only[ZaM,List.take_length,Zo h (by omega)])
 simpa using this
theorem Zyw (hM:ZaW t≤1000000000000):XV (Zhe t t.2.2.1.length) t w=some (Xd t w):=by
 have hil:=ZjH t;have h2:=Zml (t:=t) t.2.2.1.length;unfold XV;rw[Zeq (by omega),Za];have he:Zhe t t.2.2.1.length++Yl (IntKind.u64.wrap t.2.2.2) 4=ZfT t 0:=by simp[Zhe,ZfT]
 rw[he];cases w with
 | false =>
  by_cases h0:(0:Int)<t.2.1.length
  ·refine Xr ?_
   simp only[ZaN];rw[if_pos h0,show(0:Int)=((0:Nat):Int) from rfl,Zi (by omega)];simp[YZ,Xd,ZfT]
  ·refine Xr ?_
   simp only[ZaN];rw[if_neg h0];simp[YZ,Xd,ZfT]
 | true =>
  have:=ZL (step:=ZaN t true) (fun i=>((i:Int),ZfT t i)) t.2.1.length (x:=some (Xd t true)) (fun i hi=>by
   have h3:=Zrw hi;have h4:=ZpF (t:=t) i;have h5:=ZlF (List.getElem_mem hi);simp only[ZaN];rw[if_pos (by omega),Zi hi,if_neg (by simp),Zgx (by omega),Zlm (by omega) (by omega),Za,Zwj hM hi h3,Znw hi]) (by
   simp only[ZaN];rw[if_neg (by omega)]
   simp[YZ,ZfT,Xd])
  simpa using this
theorem Zyx (hM:ZaW t≤1000000000000):XW (Zhd t t.2.1.length) t w=some (Xd t w):=by
 have hol:=Zqa t;have h0:=ZpE (t:=t) t.2.1.length;have he:Zhd t t.2.1.length++Za6 t.2.2.1.length=Zhe t 0:=by simp[Zhd,Zhe]
 unfold XW;rw[Zgx (by omega),Zlm (by omega) (by omega),Za,he]
 have:=ZL (step:=ZdM t w) (fun i=>((i:Int),Zhe t i)) t.2.2.1.length (x:=some (Xd t w)) (fun i hi=>by
  have h3:=Zml (t:=t) (i+1);have h4:=Zru (List.getElem_mem hi);rw[Zqb hi] at h3 ⊢;simp only[List.length_append,ZeT] at h3;simp only[ZdM];rw[if_pos (by omega),Zi hi,ZpG (by omega),Za,Zj (by simp only[Zhc,List.length_append,ZeT]; omega),Zo hi (by omega)];simp[Zhc]) (by
  simp only[ZdM]
  rw[if_neg (by omega),Zyw hM])
 simpa using this
theorem ZkN (hM:ZaW t≤1000000000000):ZaG t w=some (Xd t w):=by
 have hil:=ZjH t;have he:Yl (IntKind.u64.wrap t.1) 4++Za6 t.2.1.length=Zhd t 0:=by simp[Zhd,ZlE]
 unfold ZaG;rw[Zeq (by simp),Za,Zgx (by omega),Zlm (by omega) (by simp),Za,List.nil_append,he]
 have:=ZL (step:=ZdN t w) (fun i=>((i:Int),Zhd t i)) t.2.1.length (x:=some (Xd t w)) (fun i hi=>by
  have h3:=ZpE (t:=t) (i+1);rw[Zqc hi] at h3 ⊢;simp only[List.length_append,ZeT,ZmQ] at h3;simp only[ZdN];rw[if_pos (by omega),Zi hi,Zp9,Za,Zj (by simp; omega),Zeq (by simp; omega),Za,Zo hi (by omega)]) (by
  simp only[ZdN]
  rw[if_neg (by omega),Zyx hM])
 simpa using this
def ZjI (t:Tapi_Tx):Prop:=t.2.1.length≤64∧t.2.2.1.length≤64∧(∀ o∈t.2.2.1,0≤o.1∧o.2.length≤520)∧∀ x∈t.2.1,x.2.2.length≤32∧∀ s∈x.2.2,s.length≤520
noncomputable def Ye (t:Tapi_Tx):Bool:=by classical exact decide (ZjI t∧(Xd t true).length≤20000)
theorem Zlo {α:Type}(g:α→Nat) (c:Nat){l:List α}(h:∀ a∈l,g a≤c):(l.map g).sum≤c * l.length:=by
 induction l with
 | nil=>simp
 | cons a l ih =>
  have h1:=h a (by simp);have h2:=ih fun b hb=>h b (by simp[hb])
  simp only[List.map_cons,List.sum_cons,List.length_cons,Nat.mul_add];omega
theorem ZqJ (h:ZjI t):ZaW t≤3000000:=by
 obtain⟨h1,h2,h3,h4⟩:=h
 have e1:=Zlo (fun x:Tapi_Input=>60+(x.2.2.map fun s=>20+s.length).sum) 20000 (l:=t.2.1) (fun x hx=>by
  obtain⟨g1,g2⟩:=h4 x hx;have:=Zlo (fun s:List Int=>20+s.length) 540 (l:=x.2.2) (fun s hs=>by have:=g2 s hs; omega);have:=Nat.mul_le_mul_left 540 g1
  omega)
 have e2:=Zlo (fun o:Tapi_Output=>60+o.2.length) 600 (l:=t.2.2.1) (fun o ho=>by have:=(h3 o ho).2; omega);have:=Nat.mul_le_mul_left 20000 h1;have:=Nat.mul_le_mul_left 600 h2;unfold ZaW;omega
theorem ZjJ (h:Ye t=true):ZaW t≤1000000000000:=by
 classical
 unfold Ye at h;simp only[decide_eq_true_eq] at h;have:=ZqJ h.1;omega
end
section
theorem ZxD {t:Tapi_Tx}{w:Bool}:(Xd t w).length≤ZaW t:=by
 have h1:=ZpF (t:=t) t.2.1.length
 have h2:(Xd t w).length≤(ZfT t t.2.1.length).length:=by
  cases w <;> simp[Xd,ZfT]
 omega
theorem Zrx {x:Tapi_Input}{i n:Nat}(hi:i<n) (hn:n≤64) (hw:x.2.2.length≤32):Ze (ZeK x (i:Int)) 0=(if ∃ s∈x.2.2,520<s.length then some (.inr false) else some (.inl ((i+1:Nat):Int))):=by
 refine ZeS (step:=ZeK x (i:Int)) (fun j=>(j:Int)) x.2.2 (fun s=>520<s.length) (some (.inr false)) (some (.inl ((i+1:Nat):Int))) (fun j hj hb=>?_) (fun j hj hb=>?_) ?_ rfl
 ·simp only[ZeK]
  rw[if_pos (by omega),Zi hj,if_neg (by omega),Zo hj (by omega)]
 ·simp only[ZeK]
  rw[if_pos (by omega),Zi hj,if_pos (by omega)];rfl
 ·simp only[ZeK]
  rw[if_neg (by omega)];simp only[Zgh,Zo hi (by omega)]
theorem ZnY (t:Tapi_Tx):Zil t=some (Ye t):=by
 classical
 unfold Zil Ye;by_cases h0:64<t.2.1.length∨64<t.2.2.1.length
 ·rw[if_pos (by omega)]
  have:¬ ZjI t:=fun h=>by have:=h.1; have:=h.2.1; omega
  simp[this]
 ·rw[if_neg (by omega)]
  have h1:=ZeS (step:=Zgj t) (fun i=>(i:Int)) t.2.2.1 (fun o=>o.1<0∨520<o.2.length) (some false) (ZeL t) (fun i hi hb=>by
   simp only[Zgj];rw[if_pos (by omega),Zi hi,if_neg (by omega),Zo hi (by omega)]) (fun i hi hb=>by
   simp only[Zgj];rw[if_pos (by omega),Zi hi,if_pos (by omega)];rfl) (by
   simp only[Zgj]
   rw[if_neg (by omega)]) (s:=0) rfl
  rw[h1];by_cases hb1:∃ o∈t.2.2.1,o.1<0∨520<o.2.length
  ·rw[if_pos hb1]
   obtain⟨o,ho,hb⟩:=hb1;have:¬ ZjI t:=fun h=>by have:=h.2.2.1 o ho; omega
   simp[this]
  ·rw[if_neg hb1]
   unfold ZeL
   have h2:=ZeS (step:=Zgi t) (fun i=>(i:Int)) t.2.1 (fun x=>32<x.2.2.length∨∃ s∈x.2.2,520<s.length) (some false) (ZeJ t) (fun i hi hb=>by
    have h3:¬ 32<(t.2.1[i]).2.2.length:=fun h=>hb (.inl h)
    have h4:¬ ∃ s∈(t.2.1[i]).2.2,520<s.length:=fun h=>hb (.inr h)
    simp only[Zgi];rw[if_pos (by omega),Zi hi,if_neg (by omega),Zrx hi (by omega) (by omega),if_neg h4]) (fun i hi hb=>by
    simp only[Zgi];rw[if_pos (by omega),Zi hi];by_cases h3:32<(t.2.1[i]).2.2.length
    ·rw[if_pos (by omega)]
     rfl
    ·rw[if_neg (by omega),Zrx hi (by omega) (by omega),if_pos (hb.resolve_left h3)]
     rfl) (by
    simp only[Zgi]
    rw[if_neg (by omega)]) (s:=0) rfl
   rw[h2];by_cases hb2:∃ x∈t.2.1,32<x.2.2.length∨∃ s∈x.2.2,520<s.length
   ·rw[if_pos hb2]
    obtain⟨x,hx,hb⟩:=hb2
    have:¬ ZjI t:=fun h=>by
     obtain⟨g1,g2⟩:=h.2.2.2 x hx;rcases hb with hb | ⟨s,hs,hb⟩
     ·omega
     ·have:=g2 s hs; omega
    simp[this]
   ·rw[if_neg hb2]
    have hlim:ZjI t:=by
     refine⟨by omega,by omega,fun o ho=>?_,fun x hx=>⟨?_,fun s hs=>?_⟩⟩
     ·have:¬ (o.1<0∨520<o.2.length):=fun h=>hb1 ⟨o,ho,h⟩
      omega
     ·have:¬ 32<x.2.2.length:=fun h=>hb2 ⟨x,hx,.inl h⟩
      omega
     ·have:¬ 520<s.length:=fun h=>hb2 ⟨x,hx,.inr ⟨s,hs,h⟩⟩
      omega
    unfold ZeJ;rw[ZlG (by have:=ZqJ hlim; omega),Za];have e:(((Xd t true).length:Int)≤20000)↔((Xd t true).length≤20000):=by omega
    simp[hlim,e]
theorem Zqd {x:Tapi_Input}{i n:Nat}(hi:i<n) (hn:n≤64) (hw:x.2.2.length≤32):Ze (ZbV x (i:Int)) 0=(if ∃ s∈x.2.2,520<s.length then some (.inr false) else some (.inl ((i+1:Nat):Int))):=by
 refine ZeS (step:=ZbV x (i:Int)) (fun j=>(j:Int)) x.2.2 (fun s=>520<s.length) (some (.inr false)) (some (.inl ((i+1:Nat):Int))) (fun j hj hb=>?_) (fun j hj hb=>?_) ?_ rfl
 ·simp only[ZbV]
  rw[if_pos (by omega),Zi hj,if_neg (by omega),Zo hj (by omega)]
 ·simp only[ZbV]
  rw[if_pos (by omega),Zi hj,if_pos (by omega)];rfl
 ·simp only[ZbV]
  rw[if_neg (by omega)];simp only[Zdp,Zo hi (by omega)]
theorem ZfU (t:Tapi_Tx):Zaz t=some (Ye t):=by
 classical
 unfold Zaz Ye;by_cases h0:64<t.2.1.length∨64<t.2.2.1.length
 ·rw[if_pos (by omega)]
  have:¬ ZjI t:=fun h=>by have:=h.1; have:=h.2.1; omega
  simp[this]
 ·rw[if_neg (by omega)]
  have h1:=ZeS (step:=Zdr t) (fun i=>(i:Int)) t.2.2.1 (fun o=>o.1<0∨520<o.2.length) (some false) (ZbW t) (fun i hi hb=>by
   simp only[Zdr];rw[if_pos (by omega),Zi hi,if_neg (by omega),Zo hi (by omega)]) (fun i hi hb=>by
   simp only[Zdr];rw[if_pos (by omega),Zi hi,if_pos (by omega)];rfl) (by
   simp only[Zdr]
   rw[if_neg (by omega)]) (s:=0) rfl
  rw[h1];by_cases hb1:∃ o∈t.2.2.1,o.1<0∨520<o.2.length
  ·rw[if_pos hb1]
   obtain⟨o,ho,hb⟩:=hb1;have:¬ ZjI t:=fun h=>by have:=h.2.2.1 o ho; omega
   simp[this]
  ·rw[if_neg hb1]
   unfold ZbW
   have h2:=ZeS (step:=Zdq t) (fun i=>(i:Int)) t.2.1 (fun x=>32<x.2.2.length∨∃ s∈x.2.2,520<s.length) (some false) (ZbU t) (fun i hi hb=>by
    have h3:¬ 32<(t.2.1[i]).2.2.length:=fun h=>hb (.inl h)
    have h4:¬ ∃ s∈(t.2.1[i]).2.2,520<s.length:=fun h=>hb (.inr h)
    simp only[Zdq];rw[if_pos (by omega),Zi hi,if_neg (by omega),Zqd hi (by omega) (by omega),if_neg h4]) (fun i hi hb=>by
    simp only[Zdq];rw[if_pos (by omega),Zi hi];by_cases h3:32<(t.2.1[i]).2.2.length
    ·rw[if_pos (by omega)]
     rfl
    ·rw[if_neg (by omega),Zqd hi (by omega) (by omega),if_pos (hb.resolve_left h3)]
     rfl) (by
    simp only[Zdq]
    rw[if_neg (by omega)]) (s:=0) rfl
   rw[h2];by_cases hb2:∃ x∈t.2.1,32<x.2.2.length∨∃ s∈x.2.2,520<s.length
   ·rw[if_pos hb2]
    obtain⟨x,hx,hb⟩:=hb2
    have:¬ ZjI t:=fun h=>by
     obtain⟨g1,g2⟩:=h.2.2.2 x hx;rcases hb with hb | ⟨s,hs,hb⟩
     ·omega
     ·have:=g2 s hs; omega
    simp[this]
   ·rw[if_neg hb2]
    have hlim:ZjI t:=by
     refine⟨by omega,by omega,fun o ho=>?_,fun x hx=>⟨?_,fun s hs=>?_⟩⟩
     ·have:¬ (o.1<0∨520<o.2.length):=fun h=>hb1 ⟨o,ho,h⟩
      omega
     ·have:¬ 32<x.2.2.length:=fun h=>hb2 ⟨x,hx,.inl h⟩
      omega
     ·have:¬ 520<s.length:=fun h=>hb2 ⟨x,hx,.inr ⟨s,hs,h⟩⟩
      omega
    unfold ZbU;rw[ZkN (by have:=ZqJ hlim; omega),Za];have e:(((Xd t true).length:Int)≤20000)↔((Xd t true).length≤20000):=by omega
    simp[hlim,e]
end
def Nx {σ ρ:Type}(I:Nat→σ→Prop) (Q:ρ→Prop) (n:Nat):σ ⊕ ρ→Prop
 | .inl s=>∃ j,j<n∧I j s
 | .inr r=>Q r
theorem ZF {σ ρ:Type}{step:σ→Option (σ ⊕ ρ)}{I:Nat→σ→Prop}{Q:ρ→Prop}(h:∀ n s,I n s→Tot (step s) (Nx I Q n)){n:Nat}{s:σ}(hs:I n s):Tot (Ze step s) Q:=by
 refine ZaE I Q (fun i s hi=>?_) n s hs;obtain⟨x,h1,h2⟩:=h i s hi;cases x with
 | inl s' =>
  obtain⟨j,hj,h3⟩:=h2;exact .inl ⟨j,s',hj,h1,h3⟩
 | inr r=>exact .inr ⟨r,h1,h2⟩
theorem Tot.out {σ ρ:Type}{I:Nat→σ→Prop}{Q:ρ→Prop}{n:Nat}{x:Option ρ}(h:Tot x Q):Tot (x.map .inr) (Nx I Q n):=by
 obtain⟨r,rfl,h⟩:=h;exact⟨_,rfl,h⟩
theorem Zz {α:Type}{p:Prop}[Decidable p]{f:Unit→Option α}{Q:α→Prop}(hp:p) (h:Tot (f ()) Q):Tot ((chk p).bind f) Q:=by rw[Zj hp]; exact h
theorem Xj {α β:Type}{l:List α}{i:Int}{f:α→Option β}{Q:β→Prop}(h0:0≤i) (h1:i<l.length) (h:∀ x∈l,Tot (f x) Q):Tot ((idx l i).bind f) Q:=by
 obtain⟨n,rfl⟩:=Int.eq_ofNat_of_zero_le h0;rw[Zi (by omega)];exact h _ (List.getElem_mem _)
theorem Xe {β:Type}{n:Nat}{i:Int}{f:Nat→Option β}{Q:β→Prop}(h0:0≤i) (h1:i<n) (h:∀ j:Nat,(j:Int)=i→j<n→Tot (f j) Q):Tot ((inA n i).bind f) Q:=by
 obtain⟨m,rfl⟩:=Int.eq_ofNat_of_zero_le h0;rw[Yk (by omega)];exact h _ rfl (by omega)
theorem Zer {α β:Type}{l:List α}{i:Nat}{f:α→Option β}{Q:β→Prop}(h1:i<l.length) (h:∀ x,l[i]? = some x→Tot (f x) Q):Tot ((l[i]?).bind f) Q:=by
 rw[ZaV h1];exact h _ (List.getElem?_eq_getElem h1)
theorem ZtJ {α β:Type}{l:List α}(f:β→α→β) (b:β){i:Nat}(h:i<l.length):(l.take (i+1)).foldl f b=f ((l.take i).foldl f b) l[i]:=by
 rw[List.take_succ_eq_append_getElem h,List.foldl_append];rfl
theorem Zb4 {σ ρ:Type}{step:σ→Option (σ ⊕ ρ)}(enc:Nat→σ) (n:Nat) (bad:Nat→Prop) (rb x:Option ρ) [inst:Decidable (∃ i,i<n∧bad i)] (h:∀ i,i<n→(∀ j,j<i→¬ bad j)→¬ bad i→step (enc i)=some (.inl (enc (i+1)))) (hb:∀ i,i<n→(∀ j,j<i→¬ bad j)→bad i→step (enc i)=rb.map .inr) (he:(∀ j,j<n→¬ bad j)→step (enc n)=x.map .inr){s:σ}(hs:s=enc 0):Ze step s=if ∃ i,i<n∧bad i then rb else x:=by
 subst hs;by_cases hx:∃ i,i<n∧bad i
 ·rw[if_pos hx]
  obtain⟨m,hm,hbm,hmin⟩:=Zp7 bad n hx;exact ZL enc m (fun i hi=>h i (by omega) (fun j hj=>hmin j (by omega)) (hmin i hi)) (hb m hm hmin hbm)
 ·rw[if_neg hx]
  have hn:∀ i,i<n→¬ bad i:=fun i hi hbi=>hx ⟨i,hi,hbi⟩
  exact ZL enc n (fun i hi=>h i hi (fun j hj=>hn j (by omega)) (hn i hi)) (he hn)
def sumI:List Int→Int
 | []=>0
 | a :: l=>a+sumI l
theorem Zry (l m:List Int):sumI (l++m)=sumI l+sumI m:=by
 induction l with
 | nil=>simp[sumI]
 | cons a l ih=>simp only[List.cons_append,sumI,ih]; omega
theorem Zdl {l:List Int}{i:Nat}(h:i<l.length):sumI (l.take (i+1))=sumI (l.take i)+l[i]:=by
 rw[List.take_succ_eq_append_getElem h,Zry];simp[sumI]
theorem Ziw {l:List Int}(h:∀ v∈l,0≤v):0≤sumI l:=by
 induction l with
 | nil=>simp[sumI]
 | cons a l ih =>
  have h1:=h a (by simp);have h2:=ih fun v hv=>h v (by simp[hv])
  simp only[sumI];omega
theorem Znx {l:List Int}(h:∀ v∈l,0≤v) (i:Nat):sumI (l.take i)≤sumI l:=by
 have h1:sumI l=sumI (l.take i)+sumI (l.drop i):=by rw[← Zry,List.take_append_drop]
 have h2:=Ziw (l:=l.drop i) fun v hv=>h v (List.mem_of_mem_drop hv)
 omega
theorem ZsE {l:List Int}{c:Int}(h:∀ v∈l,v≤c):sumI l≤l.length * c:=by
 induction l with
 | nil=>simp[sumI]
 | cons a l ih =>
  have h1:=h a (by simp);have h2:=ih fun v hv=>h v (by simp[hv])
  simp only[sumI,List.length_cons];have:((l.length+1:Nat):Int) * c=(l.length:Int) * c+c:=by rw[Int.natCast_add,Int.add_mul]; simp
  omega
theorem ZnZ (vs:List Int) (M:Int) (hM:0≤M):(∃ i,i<vs.length∧∃ h:i<vs.length,vs[i]<0∨M<sumI (vs.take (i+1)))↔(∃ v∈vs,v<0∨M<v)∨M<sumI vs:=by
 by_cases hneg:∃ v∈vs,v<0
 ·obtain⟨v,hv,hv0⟩:=hneg
  obtain⟨i,hi,rfl⟩:=List.getElem_of_mem hv;exact⟨fun _=>.inl ⟨_,hv,.inl hv0⟩,fun _=>⟨i,hi,hi,.inl hv0⟩⟩
 ·have hp:∀ v∈vs,0≤v:=fun v hv=>by
   have:¬ v<0:=fun h=>hneg ⟨v,hv,h⟩
   omega
  constructor
  ·rintro⟨i,_,hi,hb⟩
   have h1:=hp _ (List.getElem_mem hi);have h2:=Znx hp (i+1);exact .inr (by omega)
  ·intro h
   have key:M<sumI vs→∃ i,i<vs.length∧∃ h:i<vs.length,vs[i]<0∨M<sumI (vs.take (i+1)):=by
    intro hs
    have hn:0<vs.length:=by
     rcases Nat.eq_zero_or_pos vs.length with h0 | h0
     ·have:=List.length_eq_zero_iff.1 h0
      subst this;simp only[sumI] at hs;omega
     ·exact h0
    refine⟨vs.length-1,by omega,by omega,.inr ?_⟩;rw[show vs.length-1+1=vs.length by omega,List.take_length];exact hs
   rcases h with ⟨v,hv,hb⟩ | hs
   ·have h0:=hp v hv
    obtain⟨i,hi,rfl⟩:=List.getElem_of_mem hv;refine⟨i,hi,hi,.inr ?_⟩;rw[Zdl hi];have:=Ziw (l:=vs.take i) fun v hv=>hp v (List.mem_of_mem_take hv)
    omega
   ·exact key hs
theorem Zqe {K V:Type}[DecidableEq K] (k a:K) (v:V) (l:List (K×V)):XT k (ZbQ a v l)=if k=a then some v else XT k l:=by
 induction l with
 | nil=>simp[ZbQ,XT]
 | cons x l ih =>
  obtain⟨b,w⟩:=x;simp only[ZbQ];by_cases h:a=b
  ·subst h
   rw[if_pos rfl];simp only[XT];by_cases hk:k=a <;> simp[hk]
  ·rw[if_neg h]
   simp only[XT,ih];by_cases hk:k=b
   ·subst hk
    simp[Ne.symm h]
   ·simp[hk]
def ZlR (l:List Tapi_OutPoint):List (Tapi_OutPoint×Bool):=l.foldl (fun m p=>ZbQ p true m) []
theorem ZjK (k:Tapi_OutPoint) (l:List Tapi_OutPoint):((XT k (ZlR l)).getD false=true)↔k∈l:=by
 have key:∀ (l:List Tapi_OutPoint) (m:List (Tapi_OutPoint×Bool)),((XT k (l.foldl (fun m p=>ZbQ p true m) m)).getD false=true)↔(k∈l∨(XT k m).getD false=true):=by
  intro l;induction l with
  | nil=>intro m; simp
  | cons a l ih =>
   intro m;rw[List.foldl_cons,ih,Zqe];by_cases h:k=a
   ·simp[h]
   ·simp[h]
 have:=key l [];simpa[ZlR,XT] using this
theorem ZuU {l:List Tapi_OutPoint}{i:Nat}(h:i<l.length):ZlR (l.take (i+1))=ZbQ l[i] true (ZlR (l.take i)):=by
 unfold ZlR;rw[List.take_succ_eq_append_getElem h,List.foldl_append];rfl
abbrev nullP:Tapi_OutPoint:=(zA 32,4294967295)
def cbS (t:Tapi_Tx):Bool:=match t.2.1 with
 | [x]=>decide (x.1=nullP)
 | _=>false
theorem ZqK (t:Tapi_Tx):Zcp t=some (cbS t):=by
 obtain⟨a,ins,outs,l⟩:=t;unfold Zcp Zlf cbS
 match ins with
 | []=>simp
 | [x]=>simp[Prod.ext_iff]
 | x :: y :: l =>
  have:¬ ((x :: y :: l).length:Int)=1:=by simp only[List.length_cons]; omega
  dsimp only;simp only[if_neg this,decide_eq_false this];rfl
theorem Zmm (t:Tapi_Tx):Zaq t=some (cbS t):=by
 rw[← ZqK];rfl
def Ya (t:Tapi_Tx):List Int:=t.2.2.1.map Prod.fst
def ZG (t:Tapi_Tx):List Tapi_OutPoint:=t.2.1.map Prod.fst
def ZtK (l:List Tapi_OutPoint):Prop:=∃ i,i<l.length∧∃ h:i<l.length,l[i]∈l.take i
noncomputable def Zh3 (t:Tapi_Tx):Int:=by
 classical exact if ¬ Ye t=true then 4 else if t.2.1.length=0∨t.2.2.1.length=0 then 93 else if (2100000000000000:Int)<sumI (Ya t) then 90 else if ZtK (ZG t) then 91 else if nullP∈ZG t∧¬ cbS t=true then 92 else 0
theorem Zix {t:Tapi_Tx}(h:Ye t=true):ZjI t:=by
 classical
 unfold Ye at h;simp only[decide_eq_true_eq] at h;exact h.1
section
variable {t:Tapi_Tx}
theorem Zrz (h:ZjI t):∀ v∈Ya t,0≤v:=by
 intro v hv;obtain⟨o,ho,rfl⟩:=List.mem_map.1 hv;exact(h.2.2.1 o ho).1
theorem Zwk (h:ZjI t):ZiF t.2.2.1=some (decide (¬ (2100000000000000:Int)<sumI (Ya t))):=by
 classical
 have hp:=Zrz h;have hl:(Ya t).length=t.2.2.1.length:=by simp[Ya]
 have hget:∀ i (h1:i<t.2.2.1.length),(Ya t)[i]'(by omega)=(t.2.2.1[i]).1:=by intro i h1; simp[Ya]
 unfold ZiF;have h64:=h.2.1
 have hbnd:∀ i,(∀ j,j<i→¬ ∃ h:j<(Ya t).length,(Ya t)[j]<0∨(2100000000000000:Int)<sumI ((Ya t).take (j+1)))→i≤(Ya t).length→0≤sumI ((Ya t).take i)∧sumI ((Ya t).take i)≤(2100000000000000:Int):=by
  intro i hj hi;refine⟨Ziw fun v hv=>hp v (List.mem_of_mem_take hv),?_⟩;cases i with
  | zero=>simp[sumI]
  | succ i =>
   have:=hj i (by omega);have h2:¬ (2100000000000000:Int)<sumI ((Ya t).take (i+1)):=fun h=>this ⟨by omega,.inr h⟩
   omega
 rw[Zb4 (s:=(0,0)) (step:=Ze8 t.2.2.1) (fun i=>(sumI ((Ya t).take i),(i:Int))) (Ya t).length (fun i=>∃ h:i<(Ya t).length,(Ya t)[i]<0∨(2100000000000000:Int)<sumI ((Ya t).take (i+1))) (some false) (some true) ?_ ?_ ?_ rfl]
 ·by_cases hs:(2100000000000000:Int)<sumI (Ya t)
  ·rw[if_pos ((ZnZ _ _ (by decide)).2 (.inr hs))]
   simp[hs]
  ·rw[if_neg]
   ·simp[hs]
   ·intro hb
    rcases(ZnZ _ _ (by decide)).1 hb with ⟨v,hv,hb⟩ | hb
    ·have h0:=hp v hv
     have:=(ZnZ (Ya t) (2100000000000000:Int) (by decide)).2 (.inl ⟨v,hv,hb⟩);obtain⟨i,_,hi,hb'⟩:=this;have h1:=hp _ (List.getElem_mem hi);have h2:=Znx hp (i+1);omega
    ·exact hs hb
 ·intro i hi hj hb
  have hb0:=hbnd i hj (by omega);have hb1:¬ (2100000000000000:Int)<sumI ((Ya t).take (i+1)):=fun h=>hb ⟨hi,.inr h⟩
  have h0:=hp _ (List.getElem_mem hi);have hg:=hget i (by omega);rw[Zdl hi] at hb1;simp only[Ze8];rw[if_pos (by omega),Zi (by omega),wi _ (by omega),if_neg (by omega),wi _ (by omega),Zo hi (by omega),Zdl hi,hg]
 ·intro i hi hj hb
  have hb0:=hbnd i hj (by omega);obtain⟨_,hb⟩:=hb;have h0:=hp _ (List.getElem_mem hi);have hg:=hget i (by omega);rw[Zdl hi] at hb;simp only[Ze8];rw[if_pos (by omega),Zi (by omega),wi _ (by omega),if_pos (by omega)];rfl
 ·intro hj
  simp only[Ze8];rw[if_neg (by omega)];rfl
theorem pts_len:(ZG t).length=t.2.1.length:=by simp[ZG]
theorem Zgy {i:Nat}(h1:i<t.2.1.length) (h2:i<(ZG t).length):(ZG t)[i]=(t.2.1[i]).1:=by simp[ZG]
theorem ZrA (t:Tapi_Tx):ZgW t=some (Zh3 t):=by
 classical
 unfold ZgW Zh3;rw[ZnY,Za];by_cases hf:Ye t=true
 ·have hlim:=Zix hf
  have h64:=hlim.1;have hnf:¬ ¬ Ye t=true:=by simp[hf]
  rw[if_neg hnf,if_neg hnf];by_cases h0:t.2.1.length=0∨t.2.2.1.length=0
  ·rw[if_pos (show(t.2.1.length:Int)=0∨(t.2.2.1.length:Int)=0 by omega),if_pos h0]
  ·rw[if_neg (show ¬ ((t.2.1.length:Int)=0∨(t.2.2.1.length:Int)=0) by omega),if_neg h0,Zwk hlim,Za]
   by_cases hs:(2100000000000000:Int)<sumI (Ya t)
   ·rw[if_pos (by simp[hs]),if_pos hs]
   ·rw[if_neg (by simp[hs]),if_neg hs]
    have hl:=pts_len (t:=t);rw[Zb4 (s:=(0,[])) (step:=Ze9 t) (fun i=>((i:Int),ZlR ((ZG t).take i))) (ZG t).length (fun i=>∃ h:i<(ZG t).length,(ZG t)[i]∈(ZG t).take i) (some 91) (some (if nullP∈ZG t∧¬ cbS t=true then 92 else 0)) ?_ ?_ ?_ rfl]
    ·by_cases hd:ZtK (ZG t)
     ·rw[if_pos (show ∃ i,i<(ZG t).length∧∃ h:i<(ZG t).length,(ZG t)[i]∈(ZG t).take i from hd),if_pos hd]
     ·rw[if_neg (show ¬ ∃ i,i<(ZG t).length∧∃ h:i<(ZG t).length,(ZG t)[i]∈(ZG t).take i from hd),if_neg hd]
    ·intro i hi _ hb
     have hg:=Zgy (t:=t) (by omega) hi;simp only[Ze9];rw[if_pos (by omega),Zi (by omega),if_neg,Zo hi (by omega),ZuU hi,hg];rw[← hg,ZjK];exact fun h=>hb ⟨hi,h⟩
    ·intro i hi _ hb
     have hg:=Zgy (t:=t) (by omega) hi;simp only[Ze9];rw[if_pos (by omega),Zi (by omega),if_pos]
     ·rfl
     ·rw[← hg,ZjK]
      exact hb.2
    ·intro _
     simp only[Ze9];rw[if_neg (by omega),List.take_length];unfold ZiU;rw[ZqK];by_cases hn:nullP∈ZG t
     ·have hn' := (ZjK _ _).2 hn
      rw[if_pos hn'];cases hc:cbS t <;> simp[hn,hn']
     ·have hn':¬ _:=fun h=>hn ((ZjK nullP (ZG t)).1 h)
      rw[if_neg hn'];simp[hn,hn']
 ·rw[if_pos hf,if_pos hf]
theorem ZsF {i:Nat}(hi:i<t.2.1.length) (h64:t.2.1.length≤64):(Ze (Zbe (i:Int) t) 0)=(by classical exact if ∃ h:i<(ZG t).length,(ZG t)[i]∈(ZG t).take i then some (.inr 91) else some (.inl ((i+1:Nat):Int))):=by
 classical
 have hl:=pts_len (t:=t);have hgi:=Zgy hi (by omega);rw[Zb4 (s:=0) (step:=Zbe (i:Int) t) (fun j=>(j:Int)) i (fun j=>∃ h:j<(ZG t).length,(ZG t)[i]'(by omega)=(ZG t)[j]) (some (.inr 91)) (some (.inl ((i+1:Nat):Int))) ?_ ?_ ?_ rfl]
 ·have e:(∃ j,j<i∧∃ h:j<(ZG t).length,(ZG t)[i]'(by omega)=(ZG t)[j])↔∃ h:i<(ZG t).length,(ZG t)[i]∈(ZG t).take i:=by
   constructor
   ·rintro⟨j,hj,hj2,e⟩
    refine⟨by omega,?_⟩;rw[e];exact List.mem_take_iff_getElem.2 ⟨j,by omega,rfl⟩
   ·rintro⟨h,hm⟩
    obtain⟨j,hj,e⟩:=List.mem_take_iff_getElem.1 hm;exact⟨j,by omega,by omega,e.symm⟩
  simp only[e]
 ·intro j hj _ hb
  have hgj:=Zgy (t:=t) (i:=j) (by omega) (by omega);simp only[Zbe];rw[if_pos (by omega),Zi (by omega),Zi (by omega),if_neg,Zo hj (by omega)];intro h;exact hb ⟨by omega,by rw[hgi,hgj]; exact Prod.ext h.1 h.2⟩
 ·intro j hj _ hb
  have hgj:=Zgy (t:=t) (i:=j) (by omega) (by omega);obtain⟨_,hb⟩:=hb;rw[hgi,hgj] at hb;simp only[Zbe];rw[if_pos (by omega),Zi (by omega),Zi (by omega),if_pos ⟨congrArg Prod.fst hb,congrArg Prod.snd hb⟩];rfl
 ·intro _
  simp only[Zbe];rw[if_neg (by omega)];simp only[Zbd,Zo hi (by omega)]
theorem Zwl (h64:t.2.1.length≤64):Zar t=(by classical exact some (if nullP∈ZG t∧¬ cbS t=true then 92 else 0)):=by
 classical
 unfold Zar;have hl:=pts_len (t:=t);rw[Zb4 (s:=0) (step:=ZcC t) (fun j=>(j:Int)) (ZG t).length (fun j=>∃ h:j<(ZG t).length,(ZG t)[j]=nullP∧¬ cbS t=true) (some 92) (some 0) ?_ ?_ ?_ rfl]
 ·have e:(∃ j,j<(ZG t).length∧∃ h:j<(ZG t).length,(ZG t)[j]=nullP∧¬ cbS t=true)↔nullP∈ZG t∧¬ cbS t=true:=by
   constructor
   ·rintro⟨j,_,hj,e,hc⟩
    exact⟨e ▸ List.getElem_mem hj,hc⟩
   ·rintro⟨hm,hc⟩
    obtain⟨j,hj,e⟩:=List.getElem_of_mem hm;exact⟨j,hj,hj,e,hc⟩
  simp only[e];split <;> rfl
 ·intro i hi _ hb
  have hg:=Zgy (t:=t) (by omega) hi;simp only[ZcC];rw[if_pos (by omega),Zi (by omega),Zmm];unfold ZeM;rw[Za];by_cases hn:(t.2.1[i]'(by omega)).1=nullP
  ·have hc:cbS t=true:=Decidable.byContradiction fun h=>hb ⟨hi,by rw[hg,hn],h⟩
   rw[hn];simp[hc,Zo hi (show(ZG t).length≤9223372036854775807 by omega)]
  ·have hn':¬ ((decide ((t.2.1[i]'(by omega)).1.1=zA 32) && decide ((t.2.1[i]'(by omega)).1.2=4294967295))=true):=by
    simp only[Bool.and_eq_true,decide_eq_true_eq];exact fun h=>hn (Prod.ext h.1 h.2)
   rw[if_neg hn',Za,if_neg (fun h=>hn' h.1),Zo hi (by omega)]
 ·intro i hi _ hb
  have hg:=Zgy (t:=t) (by omega) hi;obtain⟨_,hb,hc⟩:=hb;rw[hg] at hb;simp only[ZcC];rw[if_pos (by omega),Zi (by omega),Zmm];unfold ZeM;rw[Za,hb];simp[hc]
 ·intro _
  simp only[ZcC];rw[if_neg (by omega)];rfl
theorem Zny (t:Tapi_Tx):ZdO t=some (Zh3 t):=by
 classical
 unfold ZdO Zh3;rw[ZfU,Za];by_cases hf:Ye t=true
 ·have hlim:=Zix hf
  have h64:=hlim.1;have h65:=hlim.2.1;have hp:=Zrz hlim;have hnf:¬ ¬ Ye t=true:=by simp[hf]
  rw[if_neg hnf,if_neg hnf];by_cases h0:t.2.1.length=0∨t.2.2.1.length=0
  ·rw[if_pos (show(t.2.1.length:Int)=0∨(t.2.2.1.length:Int)=0 by omega),if_pos h0]
  ·rw[if_neg (show ¬ ((t.2.1.length:Int)=0∨(t.2.2.1.length:Int)=0) by omega),if_neg h0]
   have hl:(Ya t).length=t.2.2.1.length:=by simp[Ya]
   have hget:∀ i (h1:i<t.2.2.1.length),(Ya t)[i]'(by omega)=(t.2.2.1[i]).1:=by intro i h1; simp[Ya]
   have hk1:XH (sumI (Ya t)) t=some (if (2100000000000000:Int)<sumI (Ya t) then 90 else if ZtK (ZG t) then 91 else if nullP∈ZG t∧¬ cbS t=true then 92 else 0):=by
    unfold XH;by_cases hs:(2100000000000000:Int)<sumI (Ya t)
    ·rw[if_pos hs,if_pos hs]
    ·rw[if_neg hs,if_neg hs]
     have hl:=pts_len (t:=t);rw[Zb4 (s:=0) (step:=ZcD t) (fun i=>(i:Int)) (ZG t).length (fun i=>∃ h:i<(ZG t).length,(ZG t)[i]∈(ZG t).take i) (some 91) (some (if nullP∈ZG t∧¬ cbS t=true then 92 else 0)) ?_ ?_ ?_ rfl]
     ·by_cases hd:ZtK (ZG t)
      ·rw[if_pos (show ∃ i,i<(ZG t).length∧∃ h:i<(ZG t).length,(ZG t)[i]∈(ZG t).take i from hd),if_pos hd]
      ·rw[if_neg (show ¬ ∃ i,i<(ZG t).length∧∃ h:i<(ZG t).length,(ZG t)[i]∈(ZG t).take i from hd),if_neg hd]
     ·intro i hi _ hb
      simp only[ZcD];rw[if_pos (by omega),ZsF (by omega) h64,if_neg hb]
     ·intro i hi _ hb
      simp only[ZcD];rw[if_pos (by omega),ZsF (by omega) h64,if_pos hb];rfl
     ·intro _
      simp only[ZcD];rw[if_neg (by omega),Zwl h64]
   have hbnd:∀ i,(∀ j,j<i→¬ ∃ h:j<(Ya t).length,(2100000000000000:Int)<(Ya t)[j])→i≤(Ya t).length→0≤sumI ((Ya t).take i)∧sumI ((Ya t).take i)≤i * (2100000000000000:Int):=by
    intro i hj hi;refine⟨Ziw fun v hv=>hp v (List.mem_of_mem_take hv),?_⟩
    have:=ZsE (l:=(Ya t).take i) (c:=(2100000000000000:Int)) (fun v hv=>by
     obtain⟨j,hj2,rfl⟩:=List.mem_take_iff_getElem.1 hv;have h1:¬ (2100000000000000:Int)<(Ya t)[j]:=fun h=>hj j (by omega) ⟨by omega,h⟩
     omega)
    rw[List.length_take,Nat.min_eq_left hi] at this;exact this
   rw[Zb4 (s:=(0,0)) (step:=ZcE t) (fun i=>(sumI ((Ya t).take i),(i:Int))) (Ya t).length (fun i=>∃ h:i<(Ya t).length,(2100000000000000:Int)<(Ya t)[i]) (some 90) (XH (sumI (Ya t)) t) ?_ ?_ ?_ rfl]
   ·rw[hk1]
    by_cases hx:∃ i,i<(Ya t).length∧∃ h:i<(Ya t).length,(2100000000000000:Int)<(Ya t)[i]
    ·rw[if_pos hx]
     obtain⟨i,_,hi,hb⟩:=hx;have h1:=Znx hp (i+1);rw[Zdl hi] at h1;have h2:=Ziw (l:=(Ya t).take i) fun v hv=>hp v (List.mem_of_mem_take hv)
     rw[if_pos (by omega)]
    ·rw[if_neg hx]
   ·intro i hi hj hb
    have hb0:=hbnd i hj (by omega);have hb1:¬ (2100000000000000:Int)<(Ya t)[i]:=fun h=>hb ⟨hi,h⟩
    have h0:=hp _ (List.getElem_mem hi);have hg:=hget i (by omega);have hi64:(i:Int)≤64:=by omega
    simp only[ZcE];rw[if_pos (by omega),Zi (by omega),if_neg (by omega),wi _ (by omega),Zo hi (by omega),Zdl hi,hg]
   ·intro i hi hj hb
    obtain⟨_,hb⟩:=hb;have hg:=hget i (by omega);simp only[ZcE];rw[if_pos (by omega),Zi (by omega),if_pos (by omega)];rfl
   ·intro _
    simp only[ZcE];rw[if_neg (by omega),List.take_length]
 ·rw[if_pos hf,if_pos hf]
end
theorem Zyy {t:Tapi_Tx}(h:Zh3 t=0):t.2.1.length≤64∧t.2.2.1.length≤64:=by
 classical
 unfold Zh3 at h;by_cases hf:Ye t=true
 ·have:=Zix hf
  exact⟨this.1,this.2.1⟩
 ·rw[if_pos hf] at h
  omega
def ZP (l:List Tapi_Coin):List Int:=l.map fun c=>c.2.1.1
def Zlp (vs:List Int):Prop:=(∃ v∈vs,v<0∨(2100000000000000:Int)<v)∨(2100000000000000:Int)<sumI vs
section
variable {l:List Tapi_Coin}
theorem Zpa {i:Nat}(h1:i<l.length) (h2:i<(ZP l).length):(ZP l)[i]=(l[i]).2.1.1:=by simp[ZP]
theorem ZuV (h64:l.length≤64):ZmM l=(by classical exact if Zlp (ZP l) then some (0,false) else some (sumI (ZP l),true)):=by
 classical
 have hl:(ZP l).length=l.length:=by simp[ZP]
 have hbnd:∀ i,(∀ j,j<i→¬ ∃ h:j<(ZP l).length,(ZP l)[j]<0∨(2100000000000000:Int)<sumI ((ZP l).take (j+1)))→i≤(ZP l).length→0≤sumI ((ZP l).take i)∧sumI ((ZP l).take i)≤(2100000000000000:Int):=by
  intro i hj hi;refine⟨Ziw fun v hv=>?_,?_⟩
  ·obtain⟨j,hj2,rfl⟩:=List.mem_take_iff_getElem.1 hv
   have h1:¬ (ZP l)[j]<0:=fun h=>hj j (by omega) ⟨by omega,.inl h⟩
   omega
  ·cases i with
   | zero=>simp[sumI]
   | succ i =>
    have h2:¬ (2100000000000000:Int)<sumI ((ZP l).take (i+1)):=fun h=>hj i (by omega) ⟨by omega,.inr h⟩
    omega
 unfold ZmM;rw[Zb4 (s:=(0,0)) (step:=Zf0 l) (fun i=>(sumI ((ZP l).take i),(i:Int))) (ZP l).length (fun i=>∃ h:i<(ZP l).length,(ZP l)[i]<0∨(2100000000000000:Int)<sumI ((ZP l).take (i+1))) (some (0,false)) (some (sumI (ZP l),true)) ?_ ?_ ?_ rfl]
 ·simp only[ZnZ (ZP l) (2100000000000000:Int) (by decide)]
  by_cases hs:Zlp (ZP l)
  ·rw[if_pos (show(∃ v∈ZP l,v<0∨(2100000000000000:Int)<v)∨(2100000000000000:Int)<sumI (ZP l) from hs),if_pos hs]
  ·rw[if_neg (show ¬ ((∃ v∈ZP l,v<0∨(2100000000000000:Int)<v)∨(2100000000000000:Int)<sumI (ZP l)) from hs),if_neg hs]
 ·intro i hi hj hb
  have hb0:=hbnd i hj (by omega);have hb1:¬ (2100000000000000:Int)<sumI ((ZP l).take (i+1)):=fun h=>hb ⟨hi,.inr h⟩
  have h0:¬ (ZP l)[i]<0:=fun h=>hb ⟨hi,.inl h⟩
  have hg:=Zpa (l:=l) (by omega) hi;rw[Zdl hi] at hb1;simp only[Zf0];rw[if_pos (by omega),Zi (by omega),wi (2100000000000000-_) (by omega),if_neg (by omega),wi _ (by omega),Zo hi (by omega),Zdl hi,hg]
 ·intro i hi hj hb
  have hb0:=hbnd i hj (by omega);obtain⟨_,hb⟩:=hb;have hg:=Zpa (l:=l) (by omega) hi;rw[Zdl hi] at hb;simp only[Zf0];rw[if_pos (by omega),Zi (by omega),wi _ (by omega),if_pos (by omega)];rfl
 ·intro hj
  simp only[Zf0];rw[if_neg (by omega),List.take_length];rfl
theorem ZxE {t:Tapi_Tx}(h64:l.length≤64):ZbD l t=(by classical exact if Zlp (ZP l) then some (0,90) else Ze (ZaH t) (sumI (ZP l),0)):=by
 classical
 have hl:(ZP l).length=l.length:=by simp[ZP]
 have hbnd:∀ i,(∀ j,j<i→¬ ∃ h:j<(ZP l).length,(ZP l)[j]<0∨(2100000000000000:Int)<(ZP l)[j])→i≤(ZP l).length→0≤sumI ((ZP l).take i)∧sumI ((ZP l).take i)≤i * (2100000000000000:Int):=by
  intro i hj hi
  have hp:∀ v∈(ZP l).take i,0≤v∧v≤(2100000000000000:Int):=fun v hv=>by
   obtain⟨j,hj2,rfl⟩:=List.mem_take_iff_getElem.1 hv;have h1:¬ (ZP l)[j]<0:=fun h=>hj j (by omega) ⟨by omega,.inl h⟩
   have h2:¬ (2100000000000000:Int)<(ZP l)[j]:=fun h=>hj j (by omega) ⟨by omega,.inr h⟩
   omega
  refine⟨Ziw fun v hv=>(hp v hv).1,?_⟩;have:=ZsE (l:=(ZP l).take i) (c:=(2100000000000000:Int)) (fun v hv=>(hp v hv).2);rw[List.length_take,Nat.min_eq_left hi] at this;exact this
 unfold ZbD;rw[Zb4 (s:=(0,0)) (step:=Zef l t) (fun i=>(sumI ((ZP l).take i),(i:Int))) (ZP l).length (fun i=>∃ h:i<(ZP l).length,(ZP l)[i]<0∨(2100000000000000:Int)<(ZP l)[i]) (some (0,90)) (ZcV (sumI (ZP l)) t) ?_ ?_ ?_ rfl]
 ·by_cases hx:∃ i,i<(ZP l).length∧∃ h:i<(ZP l).length,(ZP l)[i]<0∨(2100000000000000:Int)<(ZP l)[i]
  ·have hs:Zlp (ZP l):=by
    obtain⟨i,_,hi,hb⟩:=hx;exact .inl ⟨_,List.getElem_mem hi,hb⟩
   rw[if_pos hx,if_pos hs]
  ·rw[if_neg hx]
   unfold ZcV;by_cases hs:(2100000000000000:Int)<sumI (ZP l)
   ·have hs':Zlp (ZP l):=.inr hs
    rw[if_pos hs,if_pos hs']
   ·have hs':¬ Zlp (ZP l):=by
     rintro(⟨v,hv,hb⟩ | h)
     ·obtain⟨i,hi,rfl⟩:=List.getElem_of_mem hv
      exact hx ⟨i,hi,hi,hb⟩
     ·exact hs h
    rw[if_neg hs,if_neg hs']
 ·intro i hi hj hb
  have hb0:=hbnd i hj (by omega);have hb1:¬ ((ZP l)[i]<0∨(2100000000000000:Int)<(ZP l)[i]):=fun h=>hb ⟨hi,h⟩
  have hg:=Zpa (l:=l) (by omega) hi;have hi64:(i:Int)≤64:=by omega
  simp only[Zef];rw[if_pos (by omega),Zi (by omega),if_neg (by omega),wi _ (by omega),Zo hi (by omega),Zdl hi,hg]
 ·intro i hi hj hb
  obtain⟨_,hb⟩:=hb;have hg:=Zpa (l:=l) (by omega) hi;simp only[Zef];rw[if_pos (by omega),Zi (by omega),if_pos (by omega)];rfl
 ·intro _
  simp only[Zef];rw[if_neg (by omega),List.take_length]
end
theorem ZxF (t:Tapi_Tx):Zm2 t=ZaH t:=by
 funext ⟨a,b⟩
 rfl
def ZrB (n:Int) (l:List Tapi_Output):Int:=l.foldl (fun n x=>IntKind.i64.wrap (n-x.1)) n
theorem Zwm {t:Tapi_Tx}(h:t.2.2.1.length≤64) (n:Int):∃ r,Ze (ZaH t) (n,0)=some r:=by
 have:=ZL (step:=ZaH t) (fun i=>(ZrB n (t.2.2.1.take i),(i:Int))) t.2.2.1.length (x:=ZbC (ZrB n t.2.2.1)) (fun i hi=>by
  simp only[ZaH];rw[if_pos (by omega),Zi hi,Zo hi (by omega)];unfold ZrB;rw[ZtJ _ _ hi]) (by
  simp only[ZaH]
  rw[if_neg (by omega),List.take_length])
 have e:Ze (ZaH t) (n,0)=ZbC (ZrB n t.2.2.1):=by simpa[ZrB] using this
 rw[e];unfold ZbC;split <;> exact⟨_,rfl⟩
theorem Zwn (t:Tapi_Tx) (l:List Tapi_Coin):∃ r,Zo6 t l=some r∧Zhl t l=some r:=by
 classical
 unfold Zo6 Zhl;rw[ZrA,Zny,Za,Za];by_cases hc:Zh3 t=0
 ·obtain⟨h64,h65⟩:=Zyy hc
  have hnc:¬ ¬ Zh3 t=0:=by simp[hc]
  rw[if_neg hnc,if_neg hnc];by_cases hn:(l.length:Int)=(t.2.1.length:Int)
  ·have hnn:¬ ¬ (l.length:Int)=(t.2.1.length:Int):=by simp[hn]
   rw[if_neg hnn,if_neg hnn]
   have hk:∃ r,Zkc l t=some r∧ZbD l t=some r:=by
    rw[ZxE (by omega)];unfold Zkc;rw[ZuV (by omega)];by_cases hs:Zlp (ZP l)
    ·rw[if_pos hs,if_pos hs]
     exact⟨_,rfl,rfl⟩
    ·rw[if_neg hs,if_neg hs,Za,if_neg (by simp),ZxF]
     obtain⟨r,hr⟩:=Zwm h65 (sumI (ZP l));exact⟨r,hr,hr⟩
   obtain⟨r,hk1,hk2⟩:=hk
   have e1:=ZeS (s:=0) (step:=Zf1 l t) (fun i=>(i:Int)) (l.zip t.2.1) (fun x=>¬ (x.1.1.1=x.2.1.1∧x.1.1.2=x.2.1.2)) (some (0,101)) (some r) (fun i hi hb=>by
    have hi2:i<l.length:=by simp at hi; omega
    have hi3:i<t.2.1.length:=by simp at hi; omega
    simp only[List.getElem_zip] at hb;simp only[Zf1];rw[if_pos (by omega),Zi hi2,Zi hi3,if_neg hb,Zo hi2 (by omega)]) (fun i hi hb=>by
    have hi2:i<l.length:=by simp at hi; omega
    have hi3:i<t.2.1.length:=by simp at hi; omega
    simp only[List.getElem_zip] at hb;simp only[Zf1];rw[if_pos (by omega),Zi hi2,Zi hi3,if_pos hb];rfl) (by
    have:(l.zip t.2.1).length=l.length:=by simp; omega
    simp only[Zf1]
    rw[if_neg (by omega),hk1]) rfl
   have e2:=ZeS (s:=0) (step:=Zeg l t) (fun i=>(i:Int)) (l.zip t.2.1) (fun x=>¬ (x.1.1.1=x.2.1.1∧x.1.1.2=x.2.1.2)) (some (0,101)) (some r) (fun i hi hb=>by
    have hi2:i<l.length:=by simp at hi; omega
    have hi3:i<t.2.1.length:=by simp at hi; omega
    simp only[List.getElem_zip] at hb;simp only[Zeg];rw[if_pos (by omega),Zi hi2,Zi hi3,if_neg hb,Zo hi2 (by omega)]) (fun i hi hb=>by
    have hi2:i<l.length:=by simp at hi; omega
    have hi3:i<t.2.1.length:=by simp at hi; omega
    simp only[List.getElem_zip] at hb;simp only[Zeg];rw[if_pos (by omega),Zi hi2,Zi hi3,if_pos hb];rfl) (by
    have:(l.zip t.2.1).length=l.length:=by simp; omega
    simp only[Zeg]
    rw[if_neg (by omega),hk2]) rfl
   rw[e1,e2];split <;> exact⟨_,rfl,rfl⟩
  ·rw[if_pos hn,if_pos hn]
   exact⟨_,rfl,rfl⟩
 ·rw[if_pos hc,if_pos hc]
  exact⟨_,rfl,rfl⟩
theorem ZsG {k:IntKind}(h:k.signed=false) (x:Int):0≤k.wrap x:=by
 cases k <;> simp[IntKind.signed] at h <;> simp[IntKind.wrap,IntKind.signed,IntKind.bits] <;> omega
theorem ZxG {k:IntKind}(h:k.signed=false) (op:BinOp) (x y:Int):0≤bits op k x y:=ZsG h _
def rot (x n:Int):Int:=bits .or .u32 (IntKind.u32.wrap (x * (2 ^ (min (bits .and .u64 (IntKind.u64.wrap n) 31).toNat 32)))) (x.fdiv (2 ^ (min (IntKind.u64.wrap (32-(bits .and .u64 (IntKind.u64.wrap n) 31))).toNat 32)))
theorem ZuW (x n:Int):YT x n=some (rot x n):=by
 have h1:¬ bits .and .u64 (IntKind.u64.wrap n) 31<0:=by have:=ZxG (k:=.u64) rfl .and (IntKind.u64.wrap n) 31; omega
 have h2:¬ IntKind.u64.wrap (32-bits .and .u64 (IntKind.u64.wrap n) 31)<0:=by have:=ZsG (k:=.u64) rfl (32-bits .and .u64 (IntKind.u64.wrap n) 31); omega
 unfold YT;rw[Zj h1,Zj h2];rfl
def rr (x n:Int):Int:=rot x (IntKind.i64.wrap (-n))
theorem Zj0 (x n:Int):XX x n=some (rr x n):=by
 unfold XX;rw[ZuW];rfl
theorem Zh4 (x n:Int):Y0 x n=some (rr x n):=by
 unfold Y0;rw[ZuW];rfl
def wd (b:Arr 64) (i:Nat):Nat→Int
 | 0=>0
 | j+1=>bits .or .u32 (IntKind.u32.wrap (wd b i j * 256)) (IntKind.u32.wrap (b.at (4 * i+j)))
def ZjL (b:Arr 64):Nat→Arr 64
 | 0=>zA 64
 | i+1=>(ZjL b i).put i (wd b i 4)
theorem ZsH (b:Arr 64):∀ (i j:Nat),i≤j→(ZjL b i).at j=0
 | 0,j,_=>Zzp
 | i+1,j,h=>by
  unfold ZjL;rw[Arr.at_put_ne _ (by omega)];exact ZsH b i j (by omega)
def nxtW (w:Arr 64) (i:Nat):Int:=IntKind.u32.wrap ((IntKind.u32.wrap ((IntKind.u32.wrap ((w.at (i-16))+(bits .xor .u32 (bits .xor .u32 (rr (w.at (i-15)) 7) (rr (w.at (i-15)) 18)) ((w.at (i-15)).fdiv 8))))+(w.at (i-7))))+(bits .xor .u32 (bits .xor .u32 (rr (w.at (i-2)) 17) (rr (w.at (i-2)) 19)) ((w.at (i-2)).fdiv 1024)))
def ZmS (w:Arr 64):Nat→Arr 64
 | 0=>w
 | k+1=>(ZmS w k).put (16+k) (nxtW (ZmS w k) (16+k))
def ZeI (b:Arr 64):Arr 64:=ZmS (ZjL b 16) 48
theorem Zbr {n i:Nat}{z:Int}{β:Type}{f:Nat→Option β}(h:z=(i:Int)) (hi:i<n):(inA n z).bind f=f i:=by
 subst h;exact Yk hi
theorem Zyz (w:Arr 64):ZaO w=some (ZmS w 48):=by
 unfold ZaO
 have:=ZL (step:=Lsha_schedule_s2) (fun k=>(((16+k:Nat):Int),ZmS w k)) 48 (x:=some (ZmS w 48)) (fun k hk=>by
  simp only[Lsha_schedule_s2];rw[if_pos (by omega),Zbr (i:=16+k-15) (by rw[wi _ (by omega)]; omega) (by omega),Zj0,Za,Zj0,Za,Zbr (i:=16+k-2) (by rw[wi _ (by omega)]; omega) (by omega),Zj0,Za,Zj0,Za,Zbr (i:=16+k-16) (by rw[wi _ (by omega)]; omega) (by omega),Zbr (i:=16+k-7) (by rw[wi _ (by omega)]; omega) (by omega),Zbr (i:=16+k) rfl (by omega),wi _ (by omega)];rfl) (by
  simp only[Lsha_schedule_s2];rw[if_neg (by omega)]
  rfl)
 exact this
theorem ZyA (w:Arr 64):ZaY w=some (ZmS w 48):=by
 unfold ZaY
 have:=ZL (step:=Lref03_schedule_s2) (fun k=>(((16+k:Nat):Int),ZmS w k)) 48 (x:=some (ZmS w 48)) (fun k hk=>by
  simp only[Lref03_schedule_s2];rw[if_pos (by omega),Zbr (i:=16+k-15) (by rw[wi _ (by omega)]; omega) (by omega),Zh4,Za,Zh4,Za,Zbr (i:=16+k-2) (by rw[wi _ (by omega)]; omega) (by omega),Zh4,Za,Zh4,Za,Zbr (i:=16+k-16) (by rw[wi _ (by omega)]; omega) (by omega),Zbr (i:=16+k-7) (by rw[wi _ (by omega)]; omega) (by omega),Zbr (i:=16+k) rfl (by omega),wi _ (by omega)];rfl) (by
  simp only[Lref03_schedule_s2];rw[if_neg (by omega)]
  rfl)
 exact this
theorem Zwo (b:Arr 64):Zeh b=some (ZeI b):=by
 unfold Zeh;refine ZL (step:=ZdQ b) (fun i=>((i:Int),ZjL b i)) 16 (x:=some (ZeI b)) (fun i hi=>?_) ?_
 ·simp only[ZdQ]
  rw[if_pos (by omega)]
  have h0:ZjL b i=(ZjL b i).put i (wd b i 0):=by
   have:=Arr.put_at (ZjL b i) (i:=i) (by omega);rw[ZsH b i i (Nat.le_refl _)] at this;exact this.symm
  have:=ZL (step:=ZaP (i:Int) b) (fun j=>((j:Int),(ZjL b i).put i (wd b i j))) 4 (x:=some (.inl (((i+1:Nat):Int),(ZjL b i).put i (wd b i 4)))) (fun j hj=>by
   simp only[ZaP];rw[if_pos (by omega),Yk (by omega),Zbr (i:=4 * i+j) (by rw[wi (4 * (i:Int)) (by omega),wi _ (by omega)]; omega) (by omega),Arr.at_put _ (by omega),Arr.put_put,Zo hj (by omega)];rfl) (by
   simp only[ZaP];rw[if_neg (by omega)]
   simp only[ZbX,Zo hi (show(16:Nat)≤9223372036854775807 by omega)])
  have e:Ze (ZaP (i:Int) b) (0,ZjL b i)=_:=(congrArg (fun w=>Ze (ZaP (i:Int) b) (0,w)) h0).trans this;rw[e];rfl
 ·simp only[ZdQ]
  rw[if_neg (by omega),Zyz];rfl
abbrev bv (x:Int):BitVec 32:=BitVec.ofInt 32 x
theorem ZmT (x:Int):IntKind.u32.wrap x=x % 2 ^ 32:=by simp[IntKind.wrap,IntKind.signed,IntKind.bits]
theorem ZsI (x:Int):bv (IntKind.u32.wrap x)=bv x:=by
 rw[ZmT];apply BitVec.eq_of_toNat_eq
 simp[BitVec.toNat_ofInt]
theorem ZzF (x y:Int):bv (bits .or .u32 x y)=bv x ||| bv y:=by
 show bv (IntKind.u32.wrap ((bv x ||| bv y).toNat:Nat))=_
 rw[ZsI];generalize bv x ||| bv y=r
 show BitVec.ofInt 32 (r.toNat:Int)=r
 rw[BitVec.ofInt_natCast,BitVec.ofNat_toNat];simp
theorem Zwp {x x' y y':Int}(h1:bv x=bv x') (h2:bv y=bv y'):bits .or .u32 x y=bits .or .u32 x' y' := by
 show IntKind.u32.wrap ((bv x ||| bv y).toNat:Nat)=IntKind.u32.wrap ((bv x' ||| bv y').toNat:Nat)
 rw[h1,h2]
theorem ZrC (x:Int) (k:Nat) (h:BitVec.ofInt 32 (2 ^ k)=BitVec.twoPow 32 k):bv (x * 2 ^ k)=bv x <<< k:=by
 rw[BitVec.shiftLeft_eq_mul_twoPow,← h];exact BitVec.ofInt_mul _ _
def wr (b:Arr 64) (i:Nat):Int:=bits .or .u32 (bits .or .u32 (bits .or .u32 (IntKind.u32.wrap ((IntKind.u32.wrap (b.at (4 * i))) * 16777216)) (IntKind.u32.wrap ((IntKind.u32.wrap (b.at (4 * i+1))) * 65536))) (IntKind.u32.wrap ((IntKind.u32.wrap (b.at (4 * i+2))) * 256))) (IntKind.u32.wrap (b.at (4 * i+3)))
theorem ZzG (b:Arr 64) (i:Nat):wr b i=wd b i 4:=by
 unfold wr;simp only[wd];refine Zwp ?_ rfl;have e8:∀ x,bv (x * 256)=bv x <<< 8:=fun x=>ZrC x 8 (by decide)
 have e16:∀ x,bv (x * 65536)=bv x <<< 16:=fun x=>ZrC x 16 (by decide)
 have e24:∀ x,bv (x * 16777216)=bv x <<< 24:=fun x=>ZrC x 24 (by decide)
 simp only[ZzF,ZsI,e8,e16,e24];have h0:(bv 0) <<< 8=0#32:=by decide
 simp only[h0,BitVec.shiftLeft_or_distrib,← BitVec.shiftLeft_add,BitVec.zero_or,Nat.add_zero]
theorem ZuX (b:Arr 64):ZcF b=some (ZeI b):=by
 unfold ZcF;refine ZL (step:=Zcq b) (fun i=>((i:Int),ZjL b i)) 16 (x:=some (ZeI b)) (fun i hi=>?_) ?_
 ·simp only[Zcq]
  rw[if_pos (by omega),wi (4 * (i:Int)) (by omega),wi (4 * (i:Int)+1) (by omega),wi (4 * (i:Int)+2) (by omega),wi (4 * (i:Int)+3) (by omega),Zbr (i:=4 * i) (by omega) (by omega),Zbr (i:=4 * i+1) (by omega) (by omega),Zbr (i:=4 * i+2) (by omega) (by omega),Zbr (i:=4 * i+3) (by omega) (by omega),Yk (by omega),Zo hi (by omega)];show some (Sum.inl (((i+1:Nat):Int),(ZjL b i).put i (wr b i)))=_
  rw[ZzG];rfl
 ·simp only[Zcq]
  rw[if_neg (by omega),ZyA];rfl
theorem consts:Lref03_constants=some shaK:=by
 unfold Lref03_constants
 kernel_rfl
theorem inits:Lref03_Initial=some shaInitial:=by
 unfold Lref03_Initial
 kernel_rfl
abbrev St8:=Int×Int×Int×Int×Int×Int×Int×Int
abbrev ad (x y:Int):Int:=IntKind.u32.wrap (x+y)
def t1 (s:St8) (k w:Int):Int:=match s with
 | (a,b,c,d,e,f,g,h)=>ad (ad (ad (ad h (bits .xor .u32 (bits .xor .u32 (rr e 6) (rr e 11)) (rr e 25))) (bits .xor .u32 (bits .and .u32 e f) (bits .and .u32 (bits .xor .u32 4294967295 e) g))) k) w
def t2 (s:St8):Int:=match s with
 | (a,b,c,d,e,f,g,h)=>ad (bits .xor .u32 (bits .xor .u32 (rr a 2) (rr a 13)) (rr a 22)) (bits .xor .u32 (bits .xor .u32 (bits .and .u32 a b) (bits .and .u32 a c)) (bits .and .u32 b c))
def rnd (s:St8) (k w:Int):St8:=match s with
 | (a,b,c,d,e,f,g,h)=>(ad (t1 s k w) (t2 s),a,b,c,ad d (t1 s k w),e,f,g)
def ZlS (w:Arr 64) (s:St8):Nat→St8
 | 0=>s
 | i+1=>rnd (ZlS w s i) (shaK.at i) (w.at i)
def st0 (x:Arr 8):St8:=(x.at 0,x.at 1,x.at 2,x.at 3,x.at 4,x.at 5,x.at 6,x.at 7)
noncomputable def ZoG (x:Arr 8) (b:Arr 64):Arr 8:=match ZlS (ZeI b) (st0 x) 64 with
 | (a,b,c,d,e,f,g,h)=>((((((((zA 8).put 0 (IntKind.u32.wrap ((x.at 0)+a))).put 1 (IntKind.u32.wrap ((x.at 1)+b))).put 2 (IntKind.u32.wrap ((x.at 2)+c))).put 3 (IntKind.u32.wrap ((x.at 3)+d))).put 4 (IntKind.u32.wrap ((x.at 4)+e))).put 5 (IntKind.u32.wrap ((x.at 5)+f))).put 6 (IntKind.u32.wrap ((x.at 6)+g))).put 7 (IntKind.u32.wrap ((x.at 7)+h))
def Znz (s:St8) (i:Nat):Int×Int×Int×Int×Int×Int×Int×Int×Int:=match s with
 | (a,b,c,d,e,f,g,h)=>(a,b,c,d,e,f,g,h,(i:Int))
theorem ZxH (x:Arr 8) (b:Arr 64):Zei x b=some (ZoG x b):=by
 unfold Zei;rw[Zwo,Za];refine ZL (step:=ZdR (ZeI b) x) (fun i=>Znz (ZlS (ZeI b) (st0 x) i) i) 64 (x:=some (ZoG x b)) (fun i hi=>?_) ?_
 ·show _=some (Sum.inl (Znz (rnd (ZlS (ZeI b) (st0 x) i) (shaK.at i) ((ZeI b).at i)) (i+1)))
  obtain⟨a,b',c,d,e,f,g,h⟩:=ZlS (ZeI b) (st0 x) i;simp only[Znz,ZdR];refine(if_pos (show(i:Int)<64 by omega)).trans ?_;rw[Zj0,Za,Zj0,Za,Zj0,Za,Yk hi,Zj0,Za,Zj0,Za,Zj0,Za,Zo hi (by omega)];rfl
 ·unfold ZoG
  obtain⟨a,b',c,d,e,f,g,h⟩:=ZlS (ZeI b) (st0 x) 64;simp only[Znz,ZdR];exact(if_neg (by decide)).trans rfl
theorem Zwq (x:Arr 8) (b:Arr 64):XI x b=some (ZoG x b):=by
 unfold XI;rw[ZuX,Za,consts,Za];refine ZL (step:=Zcr shaK (ZeI b) x) (fun i=>Znz (ZlS (ZeI b) (st0 x) i) i) 64 (x:=some (ZoG x b)) (fun i hi=>?_) ?_
 ·show _=some (Sum.inl (Znz (rnd (ZlS (ZeI b) (st0 x) i) (shaK.at i) ((ZeI b).at i)) (i+1)))
  obtain⟨a,b',c,d,e,f,g,h⟩:=ZlS (ZeI b) (st0 x) i;simp only[Znz,Zcr];refine(if_pos (show(i:Int)<64 by omega)).trans ?_;rw[Zh4,Za,Zh4,Za,Zh4,Za,Yk hi,Zh4,Za,Zh4,Za,Zh4,Za,Zo hi (by omega)];rfl
 ·unfold ZoG
  obtain⟨a,b',c,d,e,f,g,h⟩:=ZlS (ZeI b) (st0 x) 64;simp only[Znz,Zcr];exact(if_neg (by decide)).trans rfl
def Zhf (n:Nat):Nat:=(64-(n+9) % 64) % 64
def ZrD (n:Nat) (j:Nat):Int:=IntKind.u8.wrap ((IntKind.u64.wrap (8 * (n:Int))).fdiv (2 ^ (56-8 * j)))
def Zd5 (n:Nat):List Int:=(128 :: List.replicate (Zhf n) 0)++(List.range 8).map (ZrD n)
theorem ZoH (n:Nat):(Zd5 n).length=9+Zhf n:=by simp[Zd5]; omega
theorem Zn0 (n:Nat):Zhf n<64:=Nat.mod_lt _ (by omega)
theorem tm {a b:Nat}:((a:Int).tmod (b:Int))=((a % b:Nat):Int):=rfl
theorem ZzH {n:Nat}(hn:n≤1000000000):(IntKind.u64.wrap (64-((IntKind.u64.wrap ((n:Int)+9)).tmod 64))).tmod 64=(Zhf n:Int):=by
 have e1:IntKind.u64.wrap ((n:Int)+9)=((n+9:Nat):Int):=wu _ (by omega);have e2:((n+9:Nat):Int).tmod 64=(((n+9) % 64:Nat):Int):=rfl;have h:=Nat.mod_lt (n+9) (show 64 > 0 by omega);have e3:IntKind.u64.wrap (64-(((n+9) % 64:Nat):Int))=((64-(n+9) % 64:Nat):Int):=by rw[wu _ (by omega)]; omega
 rw[e1,e2,e3];rfl
theorem ZxI {n:Nat}(hn:n≤1000000000):Zjr (n:Int)=some (Zd5 n):=by
 have hp:=ZzH hn;have hl:=Zn0 n;unfold Zjr;rw[hp,wu (1+(Zhf n:Int)) (by omega),wu (9+(Zhf n:Int)) (by omega),Zj (by omega),Zj (by simp; omega)]
 have e0:(List.replicate ((1+(Zhf n:Int)).toNat) (0:Int)).set 0 128=128 :: List.replicate (Zhf n) 0:=by
  rw[show(1+(Zhf n:Int)).toNat=Zhf n+1 by omega,List.replicate_succ];rfl
 rw[e0]
 have:=ZL (step:=ZhY (n:Int)) (fun k=>((k:Int),(128 :: List.replicate (Zhf n) 0)++(List.range k).map (ZrD n))) 8 (x:=some (Zd5 n)) (fun k hk=>by
  simp only[ZhY];rw[if_pos (by omega),wi (8 * (k:Int)) (by omega),wi (56-8 * (k:Int)) (by omega),Zj (by omega),Zj (by simp; omega),Zo hk (by omega)];have e:min (56-8 * (k:Int)).toNat 64=56-8 * k:=by omega
  rw[e,List.range_succ,List.map_append,← List.append_assoc];rfl) (by
  simp only[ZhY];rw[if_neg (by omega)]
  rfl)
 simpa using this
theorem Zwr {n:Nat}(hn:n≤1000000000) (b:List Int) (hb:b.length≤1000):Ze (Zej (n:Int)) (7,b)=some (b++(List.range 8).map (ZrD n)):=by
 have:=ZL (step:=Zej (n:Int)) (fun k=>(7-(k:Int),b++(List.range k).map (ZrD n))) 8 (x:=some (b++(List.range 8).map (ZrD n))) (fun k hk=>by
  simp only[Zej];rw[if_pos (by omega),wi (8 * (7-(k:Int))) (by omega),Zj (by omega),Zj (by simp; omega),wi (7-(k:Int)-1) (by omega)];have e:min (8 * (7-(k:Int))).toNat 64=56-8 * k:=by omega
  rw[e,List.range_succ,List.map_append,← List.append_assoc,show 7-(k:Int)-1=7-((k+1:Nat):Int) by omega];rfl) (by
  simp only[Zej];rw[if_neg (by omega)]
  rfl)
 simpa using this
theorem ZxJ {n:Nat}(hn:n≤1000000000):Zhm (n:Int)=some (Zd5 n):=by
 have hl:=Zn0 n;unfold Zhm
 have key:∀ k,k≤Zhf n→(IntKind.u64.wrap ((IntKind.u64.wrap ((n:Int)+(IntKind.u64.wrap (((128 :: List.replicate k (0:Int)).length:Nat):Int))))+8)).tmod 64=(((n+k+9) % 64:Nat):Int):=by
  intro k hk;have e:(128 :: List.replicate k (0:Int)).length=k+1:=by simp
  rw[e,wu ((k+1:Nat):Int) (by omega),wu ((n:Int)+((k+1:Nat):Int)) (by omega),wu _ (by omega),show((n:Int)+((k+1:Nat):Int)+8)=((n+k+9:Nat):Int) by omega];exact tm
 have:=ZL (step:=Zf3 (n:Int)) (fun k=>128 :: List.replicate k (0:Int)) (Zhf n) (x:=some (Zd5 n)) (fun k hk=>by
  simp only[Zf3];rw[key k (by omega),if_pos,Zj (by simp; omega)]
  ·rw[List.cons_append,← List.replicate_succ']
  ·have:¬ (n+k+9) % 64=0:=by unfold Zhf at hk; omega
   omega) (by
  simp only[Zf3];rw[key _ (Nat.le_refl _),if_neg]
  ·unfold Zf2
   rw[Zwr hn _ (by simp; omega)];rfl
  ·have:(n+Zhf n+9) % 64=0:=by unfold Zhf; omega
   omega)
 simpa using this
def blk (y:List Int) (i:Nat):Arr 64:=ZpA 64 (y.drop (64 * i))
noncomputable def hsh (y:List Int):Nat→Arr 8
 | 0=>shaInitial
 | i+1=>ZoG (hsh y i) (blk y i)
theorem ZuY {l:List Int}(h:64≤l.length):(zA 64).over l=ZpA 64 l:=by
 unfold Arr.over ZpA;rw[dif_pos h];have hz:=(zA 64).hl;have e:(zA 64).l.drop (min l.length 64)=[]:=List.drop_eq_nil_of_le (by omega);simp only[e,List.append_nil]
def byt (h:Arr 8) (k:Nat):Int:=IntKind.u8.wrap ((h.at (k / 4)).fdiv (2 ^ (24-(k % 4) * 8)))
def ZlT (h:Arr 8):Nat→Arr 32
 | 0=>zA 32
 | k+1=>(ZlT h k).put k (byt h k)
theorem ZxK (h:Arr 8):Zgk h=some (ZlT h 32):=by
 unfold Zgk;refine ZL (step:=ZhZ h) (fun k=>((k:Int),ZlT h k)) 32 (x:=some (ZlT h 32)) (fun k hk=>?_) ?_
 ·simp only[ZhZ]
  have e4:(k:Int).tmod 4=((k % 4:Nat):Int):=tm;have d4:(k:Int).tdiv 4=((k / 4:Nat):Int):=rfl;rw[if_pos (by omega),e4,d4,wi (((k / 4:Nat):Int)) (by omega),wi (((k % 4:Nat):Int) * 8) (by omega),wi (24-((k % 4:Nat):Int) * 8) (by omega),Yk (by omega),Zj (by omega),Yk hk,Zo hk (by omega)];have e:min (24-((k % 4:Nat):Int) * 8).toNat 32=24-(k % 4) * 8:=by omega
  rw[e];rfl
 ·simp only[ZhZ]
  rw[if_neg (by omega)];rfl
theorem ZxL (h:Arr 8):Zic h=some (ZlT h 32):=by
 unfold Zic;refine ZL (step:=Zf4 h) (fun i=>((i:Int),ZlT h (4 * i))) 8 (x:=some (ZlT h 32)) (fun i hi=>?_) ?_
 ·simp only[Zf4]
  rw[if_pos (by omega),wi (4 * (i:Int)) (by omega),wi (4 * (i:Int)+1) (by omega),wi (4 * (i:Int)+2) (by omega),wi (4 * (i:Int)+3) (by omega),Yk hi,Zbr (i:=4 * i) (by omega) (by omega),Zbr (i:=4 * i+1) (by omega) (by omega),Zbr (i:=4 * i+2) (by omega) (by omega),Zbr (i:=4 * i+3) (by omega) (by omega),Zo hi (by omega)]
  have b0:byt h (4 * i)=IntKind.u8.wrap ((h.at i).fdiv 16777216):=by
   unfold byt;rw[show 4 * i / 4=i by omega,show 4 * i % 4=0 by omega];rfl
  have b1:byt h (4 * i+1)=IntKind.u8.wrap ((h.at i).fdiv 65536):=by
   unfold byt;rw[show(4 * i+1) / 4=i by omega,show(4 * i+1) % 4=1 by omega];rfl
  have b2:byt h (4 * i+2)=IntKind.u8.wrap ((h.at i).fdiv 256):=by
   unfold byt;rw[show(4 * i+2) / 4=i by omega,show(4 * i+2) % 4=2 by omega];rfl
  have b3:byt h (4 * i+3)=IntKind.u8.wrap (h.at i):=by
   unfold byt;rw[show(4 * i+3) / 4=i by omega,show(4 * i+3) % 4=3 by omega];show IntKind.u8.wrap ((h.at i).fdiv 1)=_
   rw[Int.fdiv_one]
  rw[show 4 * (i+1)=4 * i+3+1 by omega];simp only[ZlT];rw[b0,b1,b2,b3]
 ·simp only[Zf4]
  rw[if_neg (by omega)];rfl
noncomputable def Za8 (a:List Int):Arr 32:=ZlT (hsh (a++Zd5 a.length) ((a.length+(Zd5 a.length).length) / 64)) 32
theorem Zqf (n:Nat):(n+(Zd5 n).length) % 64=0:=by
 rw[ZoH];unfold Zhf;omega
theorem ZxM {a b:List Int}(ha:a.length≤1000000000) (hb:b.length≤1000000000):Zjq [a,b]=some (a++b):=by
 unfold Zjq
 rw[Z1 (s' := (1,a)) (by
  simp only[ZhX];rw[if_pos (by simp),show(0:Int)=((0:Nat):Int) from rfl,Zi (by simp),Zj (by simp; omega)];simp[wi]),Z1 (s' := (2,a++b)) (by
  simp only[ZhX];rw[if_pos (by simp),show(1:Int)=((1:Nat):Int) from rfl,Zi (by simp),Zj (by simp; omega)]
  simp[wi])]
 refine Xr ?_;simp only[ZhX];rw[if_neg (by simp)];rfl
theorem ZpH {a:List Int}(h:a.length≤100000000):ZgX a=some (Za8 a):=by
 have hp:=ZoH a.length;have hl:=Zn0 a.length;have ht:=Zqf a.length;unfold ZgX;rw[wu _ (by omega),ZxI (by omega),Za,ZxM (by omega) (by omega),Za];have hlen:(a++Zd5 a.length).length=a.length+(Zd5 a.length).length:=by simp
 have hd:((a++Zd5 a.length).length:Int).tdiv 64=(((a.length+(Zd5 a.length).length) / 64:Nat):Int):=by rw[hlen]; rfl
 refine ZL (step:=Zh0 (a++Zd5 a.length)) (fun i=>((i:Int),hsh (a++Zd5 a.length) i)) ((a.length+(Zd5 a.length).length) / 64) (x:=some (Za8 a)) (fun i hi=>?_) ?_
 ·simp only[Zh0]
  rw[hd,wi (((a.length+(Zd5 a.length).length) / 64:Nat):Int) (by omega),if_pos (by omega),wi (64 * (i:Int)) (by omega),Zj (by omega),Zj (by omega),show(64 * (i:Int)).toNat=64 * i by omega,ZxH,Za,Zo hi (by omega)];rfl
 ·simp only[Zh0]
  rw[hd,wi (((a.length+(Zd5 a.length).length) / 64:Nat):Int) (by omega),if_neg (by omega),ZxK];rfl
theorem ZiJ {a:List Int}(h:a.length≤100000000):Y9 a=some (Za8 a):=by
 have hp:=ZoH a.length;have hl:=Zn0 a.length;have ht:=Zqf a.length;unfold Y9;rw[Zj (by omega),wu _ (by omega),ZxJ (by omega),Za,Zj (by omega),inits,Za];have hlen:(a++Zd5 a.length).length=a.length+(Zd5 a.length).length:=by simp
 refine ZL (step:=Zf5 a (Zd5 a.length)) (fun i=>((64 * i:Int),hsh (a++Zd5 a.length) i)) ((a.length+(Zd5 a.length).length) / 64) (x:=some (Za8 a)) (fun i hi=>?_) ?_
 ·simp only[Zf5]
  rw[wi (64 * (i:Int)+64) (by omega),if_pos (by omega),Zj (by omega),show(64 * (i:Int)).toNat=64 * i by omega,ZuY (by rw[List.length_drop]; omega),Zwq,Za,show 64 * (i:Int)+64=64 * ((i+1:Nat):Int) by omega];rfl
 ·simp only[Zf5]
  rw[wi _ (by omega),if_neg (by omega),ZxL];rfl
theorem ZnA {a:List Int}(h:a.length≤100000000):Zb9 a=some (Za8 (Za8 a).l):=by
 have:=(Za8 a).hl;unfold Zb9;rw[ZpH h,Za,ZpH (by omega)];rfl
theorem Zn1 {a:List Int}(h:a.length≤100000000):ZaI a=some (Za8 (Za8 a).l):=by
 have:=(Za8 a).hl;unfold ZaI;rw[ZiJ h,Za,ZiJ (by omega)];rfl
section
set_option maxRecDepth 100000
theorem Zws {a b:List Int}(h:a.length+b.length≤140737488355328):Xt [a,b]=some (a++b):=by
 unfold Xt
 rw[Z1 (s' := (1,a)) (by
  simp only[Zae];rw[if_pos (by simp),show(0:Int)=((0:Nat):Int) from rfl,Zi (by simp)];simp only[List.getElem_cons_zero];rw[X8 (by simp; omega)];simp[wi]),Z1 (s' := (2,a++b)) (by
  simp only[Zae];rw[if_pos (by simp),show(1:Int)=((1:Nat):Int) from rfl,Zi (by simp)];simp only[List.getElem_cons_succ,List.getElem_cons_zero];rw[X8 (by omega)]
  simp[wi])]
 refine Xr ?_;simp only[Zae];rw[if_neg (by simp)];rfl
theorem ZtL {a b:List Int}(h:a.length+b.length≤1000000000):ZX [a,b]=some (a++b):=by
 have e1:Ze (Yr [a,b]) (0,([]:List Int))=some (a++b):=by
  rw[Z1 (s' := (1,a)) (by
   simp only[Yr];rw[if_pos (by simp),show(0:Int)=((0:Nat):Int) from rfl,Zi (by simp),Zj (by simp; omega)];simp[wi]),Z1 (s' := (2,a++b)) (by
   simp only[Yr];rw[if_pos (by simp),show(1:Int)=((1:Nat):Int) from rfl,Zi (by simp),Zj (by simp; omega)]
   simp[wi])]
  refine Xr ?_;simp only[Yr];rw[if_neg (by simp)];rfl
 unfold ZX
 rw[Z1 (s' := ((a.length:Int),1)) (by
  simp only[YS];rw[if_pos (by simp),show(0:Int)=((0:Nat):Int) from rfl,Zi (by simp)];simp only[List.getElem_cons_zero];rw[wi (((0:Nat):Int)+a.length) (by omega),if_neg (by omega),YR,wi (((0:Nat):Int)+a.length) (by omega)];simp[wi]),Z1 (s' := ((a.length:Int)+b.length,2)) (by
  simp only[YS];rw[if_pos (by simp),show(1:Int)=((1:Nat):Int) from rfl,Zi (by simp)];simp only[List.getElem_cons_succ,List.getElem_cons_zero];rw[wi ((a.length:Int)+b.length) (by omega),if_neg (by omega),YR,wi ((a.length:Int)+b.length) (by omega)]
  simp[wi])]
 refine Xr ?_;simp only[YS];rw[if_neg (by simp),Za7,Zj (by omega),e1]
noncomputable def ZlH (f p:Arr 32):Arr 32:=Za8 (Za8 (f.l++p.l)).l
theorem ZuZ (f p:Arr 32):Zdt f p=some (ZlH f p):=by
 have h1:=f.hl; have h2:=p.hl;unfold Zdt;rw[ZtL (by omega),Za,ZnA (by simp[h1,h2])];rfl
theorem ZtM (f p:Arr 32):Zek f p=some (ZlH f p):=by
 have h1:=f.hl; have h2:=p.hl;unfold Zek;rw[Zws (by omega),Za,Zn1 (by simp[h1,h2])];rfl
def ZoI (f:Tapi_Filter):List Int×Int:=if (f.1<0∨4096<f.1)∨200000<(f.2.length:Int) then([],4) else(Za6 f.1++bytesB f.2,0)
theorem ZxN (f:Tapi_Filter):Zdu f=some (ZoI f):=by
 unfold Zdu ZoI;by_cases h:(f.1<0∨4096<f.1)∨200000<(f.2.length:Int)
 ·rw[if_pos h,if_pos h]
 ·have:=Za4 f.1
  rw[if_neg h,if_neg h,wu _ (by omega),ZkW (by omega) (by simp),Za,List.nil_append,Znt (by omega)];rfl
theorem Zwt (f:Tapi_Filter):(ZoI f).1.length≤300000:=by
 unfold ZoI;split
 ·simp
 ·have:=Za4 f.1
  have:=ZkM f.2;simp only[List.length_append];omega
noncomputable def Zpb (f:Tapi_Filter):Arr 32:=if (ZoI f).2=0 then Za8 (Za8 (ZoI f).1).l else zA 32
theorem ZrE (f:Tapi_Filter):ZdT f=some (Zpb f):=by
 have:=Zwt f;unfold ZdT Zpb;rw[ZxN,Za];by_cases h:(ZoI f).2=0
 ·rw[if_neg (by simp[h]),if_pos h,ZnA (by omega)]
  rfl
 ·rw[if_pos h,if_neg h]
end
section
set_option maxRecDepth 100000
noncomputable def hdrs:Arr 32→List (Arr 32)→List (Arr 32)
 | _,[]=>[]
 | p,f :: l=>ZlH f p :: hdrs (ZlH f p) l
noncomputable def Zlq (l:List (Arr 32)) (n:Nat):Arr 32:=if n=0 then zA 32 else l.getD (n-1) (zA 32)
theorem Zgz (p:Arr 32) (l:List (Arr 32)):(hdrs p l).length=l.length:=by
 induction l generalizing p with
 | nil=>rfl
 | cons f l ih=>simp[hdrs,ih]
theorem Zok (p:Arr 32) (l m:List (Arr 32)):hdrs p (l++m)=hdrs p l++hdrs ((hdrs p l).getLastD p) m:=by
 induction l generalizing p with
 | nil=>simp[hdrs]
 | cons f l ih =>
  simp only[List.cons_append,hdrs,ih]
  congr 2
  have:∀ (m:List (Arr 32)) (a b:Arr 32),(a :: m).getLastD b=m.getLastD a:=by
   intro m a b;cases m <;> rfl
  rw[this]
theorem Zu0 (p:Arr 32) (l:List (Arr 32)) (n:Nat):(hdrs p l).take n=hdrs p (l.take n):=by
 induction n generalizing p l with
 | zero=>simp[hdrs]
 | succ n ih=>cases l <;> simp[hdrs,ih]
end
section
set_option maxRecDepth 100000
theorem Zwu (l:List (Arr 32)):Zlq l l.length=l.getLastD (zA 32):=by
 unfold Zlq;cases l with
 | nil=>rfl
 | cons x l=>rw[if_neg (by simp)]; simp[List.getD_eq_getElem?_getD,List.getLastD,List.getLast_eq_getElem]
theorem ZtN (l:List (Arr 32)) (n:Nat) (h:n≤l.length):(hdrs (zA 32) l).take n++hdrs (Zlq ((hdrs (zA 32) l).take n) n) (l.drop n)=hdrs (zA 32) l:=by
 have hl:((hdrs (zA 32) l).take n).length=n:=by rw[List.length_take,Zgz]; omega
 have e:Zlq ((hdrs (zA 32) l).take n) n=((hdrs (zA 32) l).take n).getLastD (zA 32):=by
  have:=Zwu ((hdrs (zA 32) l).take n)
  rwa[hl] at this
 rw[e,Zu0,← Zok,List.take_append_drop]
theorem Zwv (l:List (Arr 32)){i n:Nat}(h:i≤n) (hn:n≤l.length):Zlq (l.take n) i=Zlq l i:=by
 unfold Zlq;by_cases h0:i=0
 ·rw[if_pos h0,if_pos h0]
 ·rw[if_neg h0,if_neg h0,List.getD_eq_getElem?_getD,List.getD_eq_getElem?_getD,List.getElem?_take_of_lt (by omega)]
theorem Zww (l:List (Arr 32)) (n:Nat) (h:n<l.length):(hdrs (zA 32) l)[n]'(by rw[Zgz]; exact h)=ZlH l[n] (Zlq (hdrs (zA 32) l) n):=by
 have hl:=Zgz (zA 32) l;have e:=ZtN l n (by omega);have hk:((hdrs (zA 32) l).take n).length=n:=by rw[List.length_take]; omega
 have e2:(hdrs (zA 32) l)[n]? = some (ZlH l[n] (Zlq ((hdrs (zA 32) l).take n) n)):=by
  generalize Zlq ((hdrs (zA 32) l).take n) n=p at e ⊢;have:(hdrs (zA 32) l)[n]? = ((hdrs (zA 32) l).take n++hdrs p (l.drop n))[n]? := by rw[e]
  rw[this,List.getElem?_append_right (by omega),hk,Nat.sub_self,List.drop_eq_getElem_cons h];rfl
 rw[Zwv _ (Nat.le_refl n) (by omega)] at e2;exact Option.some.inj ((List.getElem?_eq_getElem _).symm.trans e2)
end
end Go.Lc
