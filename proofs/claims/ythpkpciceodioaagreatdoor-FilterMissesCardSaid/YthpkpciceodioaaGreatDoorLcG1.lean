import Derived.Test.YthpkpciceodioaaGreatDoorAvP3
import Derived.WalkSpells
import Derived.MapKept
import Derived.Laws.StructEq
import Derived.Lib.BitFns
namespace Go.Av
open Go.RowKit
open Go.Av
set_option linter.unusedVariables false
set_option linter.unusedSimpArgs false
section
variable {tt:TT}{T:Tab}{G:Glob}{kp:Keep}{st st0 st1:ASt}{a b c d:Code}{Q Q':AE→ASt→Prop}
def ZC (tt:TT) (T:Tab) (G:Glob) (kp:Keep) (c:Code) (st:ASt) (Q:AE→ASt→Prop):Prop:=∃ n0 e s,(∀ n,n0≤n→Yq tt T G kp n c st=some (e,s))∧Q e s
theorem ZkC (h:ZC tt T G kp a st (Zia (fun s=>ZC tt T G kp b s Q) Q)):ZC tt T G kp (.seq a b) st Q:=by
 obtain⟨n0,e,s,h1,h2⟩:=h;cases e with
 | normal =>
  obtain⟨n1,e',s',h3,h4⟩:=h2;exact⟨max n0 n1,e',s',fun n hn=>by simp[Yq,h1 n (by omega),h3 n (by omega)],h4⟩
 | exit id=>exact⟨n0,_,_,fun n hn=>by simp[Yq,h1 n hn],h2⟩
 | ret=>exact⟨n0,_,_,fun n hn=>by simp[Yq,h1 n hn],h2⟩
theorem XC {id:Nat}{ops:Array Oper}(hc:c = .region id ops false) (h:Zcr tt T G ops.toList ops.toList st=some st1) (hq:Q .normal st1) (hj:(kp (id+1000000)).ks.isEmpty=true:=by rfl):ZC tt T G kp c st Q:=⟨0,_,_,fun n _=>by subst hc; simp[Yq,Za8,hj,h],hq⟩
theorem ZoK {id:Nat}{ops:Array Oper}{fs:List Foot}(hc:c = .region id ops true) (h:ZcW tt T G ops.toList ops.toList st=some (st1,fs)) (hd:Zg6 ops.toList fs=true) (hq:Q .normal st1) (hj:(kp (id+1000000)).ks.isEmpty=true:=by rfl):ZC tt T G kp c st Q:=⟨0,_,_,fun n _=>by subst hc; simp[Yq,Za8,hj,h,hd],hq⟩
theorem Ze {id:Nat}{ops:Array Oper}(hc:c = .region id ops false) (h:Zcr tt T G ops.toList ops.toList st=some st1) (hq:ZC tt T G kp b st1 Q) (hj:(kp (id+1000000)).ks.isEmpty=true:=by rfl):ZC tt T G kp (.seq c b) st Q:=ZkC (XC hc h hq hj)
theorem Y8 {id:Nat}{ops:Array Oper}{fs:List Foot}(hc:c = .region id ops true) (h:ZcW tt T G ops.toList ops.toList st=some (st1,fs)) (hd:Zg6 ops.toList fs=true) (hq:ZC tt T G kp b st1 Q) (hj:(kp (id+1000000)).ks.isEmpty=true:=by rfl):ZC tt T G kp (.seq c b) st Q:=ZkC (ZoK hc h hd hq hj)
theorem Zgz (h:Q .normal st):ZC tt T G kp .skip st Q:=⟨0,_,_,fun _ _=>rfl,h⟩
theorem Zcg (h:Q .ret st):ZC tt T G kp .ret st Q:=⟨0,_,_,fun _ _=>rfl,h⟩
theorem Zm6 {id:Nat}(h:Q (.exit id) st):ZC tt T G kp (.exit id) st Q:=⟨0,_,_,fun _ _=>rfl,h⟩
theorem ZL (h:ZC tt T G kp b st Q):ZC tt T G kp (.seq .skip b) st Q:=ZkC (Zgz h)
theorem ZeV (h:Q .ret st):ZC tt T G kp (.seq .ret b) st Q:=ZkC (Zcg h)
theorem Ym {id:Nat}(h:Q (.exit id) st):ZC tt T G kp (.seq (.exit id) b) st Q:=ZkC (Zm6 h)
theorem ZT (h:ZC tt T G kp (.seq a (.seq b d)) st Q):ZC tt T G kp (.seq (.seq a b) d) st Q:=by
 obtain⟨n0,e,s,h1,h2⟩:=h;refine⟨n0,e,s,fun n hn=>?_,h2⟩;rw[← h1 n hn];simp only[Yq];cases Yq tt T G kp n a st with
 | none=>rfl
 | some x=>obtain⟨e,s⟩:=x; cases e <;> rfl
theorem ZhE {x:Operand}(h:rd G st.get x=some (bV true)) (h1:ZC tt T G kp a st Q):ZC tt T G kp (.cond x a b) st Q:=by
 unfold bV at h;obtain⟨n0,e,s,h3,h4⟩:=h1; exact⟨n0,e,s,fun n hn=>by simp only[Yq,h,h3 n hn,if_true],h4⟩
theorem ZeW {x:Operand}(h:rd G st.get x=some (bV false)) (h1:ZC tt T G kp b st Q):ZC tt T G kp (.cond x a b) st Q:=by
 unfold bV at h;obtain⟨n0,e,s,h3,h4⟩:=h1; exact⟨n0,e,s,fun n hn=>by simp only[Yq,h,h3 n hn,Bool.false_eq_true,if_false],h4⟩
theorem ZJ {x:Operand}(h:rd G st.get x=some (bV true)) (h1:ZC tt T G kp (.seq a d) st Q):ZC tt T G kp (.seq (.cond x a b) d) st Q:=by
 unfold bV at h;obtain⟨n0,e,s,h3,h4⟩:=h1; exact⟨n0,e,s,fun n hn=>by rw[← h3 n hn]; simp only[Yq,h,if_true],h4⟩
theorem ZE {x:Operand}(h:rd G st.get x=some (bV false)) (h1:ZC tt T G kp (.seq b d) st Q):ZC tt T G kp (.seq (.cond x a b) d) st Q:=by
 unfold bV at h;obtain⟨n0,e,s,h3,h4⟩:=h1; exact⟨n0,e,s,fun n hn=>by rw[← h3 n hn]; simp only[Yq,h,Bool.false_eq_true,if_false],h4⟩
theorem ZdZ {id:Nat}(h:ZC tt T G kp c st (Zkb id Q)):ZC tt T G kp (.block id c) st Q:=by
 obtain⟨n0,e,s,h1,h2⟩:=h;cases e with
 | normal=>exact⟨n0,.normal,s,fun n hn=>by simp[Yq,h1 n hn],h2⟩
 | ret=>exact⟨n0,.ret,s,fun n hn=>by simp[Yq,h1 n hn],h2⟩
 | exit id' =>
  simp only[Zkb] at h2;split at h2
  ·rename_i hid; exact⟨n0,.normal,s,fun n hn=>by simp[Yq,h1 n hn,hid],h2⟩
  ·rename_i hid; exact⟨n0,.exit id',s,fun n hn=>by simp[Yq,h1 n hn,hid],h2⟩
theorem ZG {id:Nat}(h:ZC tt T G kp c st (Zkb id (Zia (fun s=>ZC tt T G kp d s Q) Q))):ZC tt T G kp (.seq (.block id c) d) st Q:=ZkC (ZdZ h)
theorem Zwt {n:Nat}{st st':ASt}:∀ {c:Code}{key:Nat},firstJ c=some key→(kp key).ks.isEmpty=false→ZbH (kp key) st=ZbH (kp key) st'→Yq tt T G kp n c st=Yq tt T G kp n c st' := by
 intro c;induction c with
 | region id ops dr =>
  intro key hc ha hf;simp only[firstJ,Option.some.injEq] at hc;subst hc;simp only[Yq,Za8,ha,Bool.false_eq_true,if_false,hf]
 | seq a b iha ihb =>
  intro key hc ha hf;simp only[firstJ] at hc;simp only[Yq,iha hc ha hf]
 | block id c ih =>
  intro key hc ha hf;simp only[firstJ] at hc;simp only[Yq,ih hc ha hf]
 | loop c ih =>
  intro key hc ha hf;simp only[firstJ,Option.some.injEq] at hc;subst hc;cases n with
  | zero=>rfl
  | succ n=>simp only[Yq,Zk7,hf]
 | _=>intro key hc; simp[firstJ] at hc
theorem ZhZ {key:Nat}{kq:Kp}{H:ASt}(hc:firstJ c=some key) (hk:kp key=kq) (ha:kq.ks.isEmpty=false) (hf:ZbH kq st=ZbH kq H) (h:ZC tt T G kp c H Q):ZC tt T G kp c st Q:=by
 subst hk;obtain⟨n0,e,s,h1,h2⟩:=h;exact⟨n0,e,s,fun n hn=>by rw[Zwt hc ha hf]; exact h1 n hn,h2⟩
theorem ZnN {σ ρ:Type}{l rhs:Option ρ}(_:l=rhs) (H:σ→ASt) (f:σ→Option ρ) (hJ:∀ s,f s=rhs→ZC tt T G kp b (H s) Q) (hm:(∀ s,f s=rhs→ZC tt T G kp b (H s) Q)→ZC tt T G kp (.seq a b) st Q):ZC tt T G kp (.seq a b) st Q:=hm hJ
theorem ZsN {σ ρ:Type}{l rhs:Option ρ}(_:l=rhs) (X:AE) (H:σ→ASt) (f:σ→Option ρ) (hJ:∀ s,f s=rhs→Q X (H s)) (hm:(∀ s,f s=rhs→Q X (H s))→ZC tt T G kp c st Q):ZC tt T G kp c st Q:=hm hJ
theorem Zlq {id:Nat}{ops:Array Oper}{kq:Kp}(hc:c = .region id ops false) (hk:kp (id+1000000)=kq) (hf:Za8 kq st=st0) (h:Zcr tt T G ops.toList ops.toList st0=some st1) (hq:Q .normal st1):ZC tt T G kp c st Q:=⟨0,_,_,fun n _=>by subst hc; simp[Yq,hk,hf,h],hq⟩
theorem Zvc {id:Nat}{ops:Array Oper}{kq:Kp}{fs:List Foot}(hc:c = .region id ops true) (hk:kp (id+1000000)=kq) (hf:Za8 kq st=st0) (h:ZcW tt T G ops.toList ops.toList st0=some (st1,fs)) (hd:Zg6 ops.toList fs=true) (hq:Q .normal st1):ZC tt T G kp c st Q:=⟨0,_,_,fun n _=>by subst hc; simp[Yq,hk,hf,h,hd],hq⟩
theorem Zns {id:Nat}{ops:Array Oper}{kq:Kp}(hc:c = .region id ops false) (hk:kp (id+1000000)=kq) (hf:Za8 kq st=st0) (h:Zcr tt T G ops.toList ops.toList st0=some st1) (hq:ZC tt T G kp b st1 Q):ZC tt T G kp (.seq c b) st Q:=ZkC (Zlq hc hk hf h hq)
def ZeX {σ ρ:Type}(step:σ→Option (σ ⊕ ρ)):Nat→σ→Option ρ
 | 0,_=>none
 | m+1,s=>match step s with | some (.inl s')=>ZeX step m s' | some (.inr r)=>some r | none=>none
theorem ZlU {σ ρ:Type}{step:σ→Option (σ ⊕ ρ)}:∀ {m:Nat}{s:σ}{r:ρ},ZeX step m s=some r→∀ k,ZeX step (m+k) s=some r
 | 0,_,_,h=>by simp[ZeX] at h
 | m+1,s,r,h=>by
  intro k;rw[show m+1+k=(m+k)+1 by omega];simp only[ZeX] at h ⊢;split at h
  ·rename_i s' hs
   exact ZlU h k
  ·exact h
  ·simp at h
noncomputable def Zd {σ ρ:Type}(step:σ→Option (σ ⊕ ρ)) (s:σ):Option ρ:=by
 classical
 exact if h:∃ m r,ZeX step m s=some r then some (Classical.choose (Classical.choose_spec h)) else none
theorem Zib {σ ρ:Type}{step:σ→Option (σ ⊕ ρ)}{s:σ}{r:ρ}:Zd step s=some r↔∃ m,ZeX step m s=some r:=by
 unfold Zd;constructor
 ·intro h
  split at h
  ·rename_i hx
   have:=Classical.choose_spec (Classical.choose_spec hx);injection h with h;rw[h] at this;exact⟨_,this⟩
  ·simp at h
 ·rintro⟨m,h⟩
  have hx:∃ m r,ZeX step m s=some r:=⟨m,r,h⟩
  rw[dif_pos hx];have h2:=Classical.choose_spec (Classical.choose_spec hx);have h3:=ZlU h (Classical.choose hx);have h4:=ZlU h2 m;rw[Nat.add_comm,h3] at h4;exact h4.symm
theorem ZlV {σ ρ:Type}(step:σ→Option (σ ⊕ ρ)) (s:σ):Zd step s=(match step s with | some (.inl s')=>Zd step s' | some (.inr r)=>some r | none=>none):=by
 apply Option.ext
 intro r;rw[Zib];constructor
 ·rintro⟨m,h⟩
  cases m with
  | zero=>simp[ZeX] at h
  | succ m =>
   simp only[ZeX] at h;split at h
   ·exact Zib.2 ⟨m,h⟩
   ·exact h
   ·simp at h
 ·intro h
  split at h
  ·rename_i s' hs
   obtain⟨m,hm⟩:=Zib.1 h;exact⟨m+1,by simp[ZeX,hs,hm]⟩
  ·rename_i r' hs
   exact⟨1,by simpa[ZeX,hs] using h⟩
  ·simp at h
def QL {σ ρ:Type}(kq:Kp) (H:σ→ASt) (Q:AE→ASt→Prop) (r:ρ):σ ⊕ ρ→AE→ASt→Prop
 | .inl s'=>Zia (fun st=>ZbH kq st=H s') fun _ _=>False
 | .inr r'=>Zia (fun _=>False) fun e st=>r'=r→Q e st
theorem ZxC {σ ρ:Type}{kq:Kp}{step:σ→Option (σ ⊕ ρ)}{H:σ→ASt}{r:ρ}
  (hb:∀ s x,step s=some x→ZC tt T G kp c (H s) (QL kq H Q r x)) :
  ∀ (m:Nat) (s:σ) (st:ASt),ZeX step m s=some r→ZbH kq st=H s→∃ n0 e s',(∀ M,n0≤M→∀ n,n0≤n→Zk7 kq (Yq tt T G kp n c) M st=some (e,s'))∧Q e s' := by
 intro m;induction m with
 | zero=>intro s st h; simp[ZeX] at h
 | succ m ih =>
  intro s st h hf;simp only[ZeX] at h;split at h
  ·rename_i s' hs
   obtain⟨n1,e,st',h1,h2⟩:=hb s _ hs;cases e with
   | normal =>
    obtain⟨n2,e2,st2,h3,h4⟩:=ih s' st' h h2;refine⟨max n1 n2+1,e2,st2,fun M hM n hn=>?_,h4⟩;obtain⟨M,rfl⟩:∃ M',M=M'+1:=⟨M-1,by omega⟩
    simp only[Zk7,hf,h1 n (by omega)];exact h3 M (by omega) n (by omega)
   | exit id=>exact h2.elim
   | ret=>exact h2.elim
  ·rename_i r' hs
   injection h with h;subst h;obtain⟨n1,e,st',h1,h2⟩:=hb s _ hs;cases e with
   | normal=>exact h2.elim
   | exit id =>
    refine⟨n1+1,_,_,fun M hM n hn=>?_,h2 rfl⟩;obtain⟨M,rfl⟩:∃ M',M=M'+1:=⟨M-1,by omega⟩
    simp only[Zk7,hf,h1 n (by omega)]
   | ret =>
    refine⟨n1+1,_,_,fun M hM n hn=>?_,h2 rfl⟩;obtain⟨M,rfl⟩:∃ M',M=M'+1:=⟨M-1,by omega⟩
    simp only[Zk7,hf,h1 n (by omega)]
  ·simp at h
theorem XU {σ ρ:Type}{kq:Kp}{step:σ→Option (σ ⊕ ρ)}{H:σ→ASt}(hk:kp (firstId c)=kq){s:σ}{r:ρ}
  (hr:Zd step s=some r) (hf:ZbH kq st=H s)
  (hb:∀ s x,step s=some x→ZC tt T G kp c (H s) (QL kq H Q r x)):ZC tt T G kp (.loop c) st Q:=by
 obtain⟨m,hm⟩:=Zib.1 hr;obtain⟨n0,e,s',h1,h2⟩:=ZxC hb m s st hm hf;refine⟨n0,e,s',fun n hn=>?_,h2⟩;simp only[Yq];rw[hk];exact h1 n hn n hn
theorem fnE {fn:Func}{args:List PV}{w:Bool}{r:PV×List (List Cell)}(hb:fn.body=some c) (hc:ZkX args=true) (h:ZC tt T G kp c ⟨(ioIn 0 0 args).1++List.replicate (fn.ntmps-args.length) .skip,Zku args⟩ (XT tt w fn args r)):∃ kp fl n,ZO tt T G kp fl n fn args=some r:=by
 obtain⟨n0,e,s,h1,h2⟩:=h;exact⟨kp,w,n0,Zwo hb hc ⟨e,s,h1 n0 (Nat.le_refl _),h2⟩⟩
end
def idx {α:Type}(l:List α) (i:Int):Option α:=if 0≤i then l[i.toNat]? else none
theorem ZcY {α:Type}{l:List α}{i:Int}{x:α}(h:idx l i=some x):0≤i∧l[i.toNat]? = some x:=by
 unfold idx at h;split at h
 ·exact⟨by assumption,h⟩
 ·simp at h
def inA (n:Nat) (i:Int):Option Nat:=if 0≤i∧i<n then some i.toNat else none
theorem Yy {n:Nat}{i:Int}{j:Nat}(h:inA n i=some j):0≤i∧i.toNat=j∧j<n:=by
 unfold inA at h;split at h
 ·simp at h
  omega
 ·simp at h
def chk (p:Prop) [Decidable p]:Option Unit:=if p then some () else none
theorem ZW {p:Prop}[Decidable p]{u:Unit}(h:chk p=some u):p:=by
 unfold chk at h;split at h
 ·assumption
 ·simp at h
theorem Zwu {p:Prop}[Decidable p] (h:p):chk p=some ():=by simp[chk,h]
@[simp] theorem Zzh {k:IntKind}{l m:List Int}:Zf k l=Zf k m↔l=m:=⟨ZtL,fun h=>by rw[h]⟩
@[simp] theorem ZAc {n:Nat}{k:IntKind}{a b:Arr n}:arC k a=arC k b↔a=b:=⟨ZoJ,fun h=>by rw[h]⟩
@[simp] theorem ZAd {n:Nat}{k:IntKind}{a b:Arr n}{s t:List Cell}:arC k a++s=arC k b++t↔a=b∧s=t:=by
 constructor
 ·intro h
  obtain⟨h1,h2⟩:=List.append_inj h (by simp);exact⟨ZoJ h1,h2⟩
 ·rintro⟨rfl,rfl⟩; rfl
theorem ZrO {α:Type}{f:α→List Cell}(hf:∀ a b,f a=f b→a=b){l m:List α}:l.map f=m.map f↔l=m:=List.map_inj_right hf
@[simp] theorem ZzB {n:Nat}{k:IntKind}{l m:List (Arr n)}:List.map (arC k) l=List.map (arC k) m↔l=m:=ZrO fun _ _ h=>ZoJ h
@[simp] theorem Zyp {n:Nat}{k:IntKind}{l:List (Arr n)}:∀ x∈List.map (arC k) l,x.length=n:=by simp
@[simp] theorem ZmB {k:IntKind}:Zf k []=[]:=rfl
@[simp] theorem ZlW {k:IntKind}{x:Int}{l:List Int}:Zf k (x :: l)=[.v (.int k x)] :: Zf k l:=rfl
@[simp] theorem Yz {k:IntKind}{l m:List Int}:Zf k (l++m)=Zf k l++Zf k m:=intsR_append.symm
@[simp] theorem ZiN {k:IntKind}{l:List Int}{n:Nat}:Zf k (l.take n)=(Zf k l).take n:=(ZlR n).symm
@[simp] theorem ZnO {k:IntKind}{l:List Int}{n:Nat}:Zf k (l.drop n)=(Zf k l).drop n:=(Zof n).symm
@[simp] theorem Zt {k:IntKind}{l:List Int}{n:Nat}{x:Int}:Zf k (l.set n x)=(Zf k l).set n [.v (.int k x)]:=(Zo n x).symm
@[simp] theorem Zpk {k:IntKind}{n:Nat}{x:Int}:Zf k (List.replicate n x)=List.replicate n [.v (.int k x)]:=by simp[Zf]
@[simp] theorem ZyL {k:IntKind}{m:List Int}:(∀ l,l∈Zf k m→l.length=1)=True:=eq_true fun l h=>intsR_all l h
@[simp] theorem isSl_v (x:Value):Cell.isSl (.v x)=false:=rfl
@[simp] theorem ZAe (els:List (List Cell)):Cell.isSl (.slice .no els)=true:=rfl
@[simp] theorem ZzC (els:List (List Cell)):Cell.isSl (.slice .nil els)=false:=rfl
@[simp] theorem ZAf (a b c d e:Nat):Cell.isSl (.ms a b c d e)=false:=rfl
@[simp] theorem ZAg (a b c d e:Nat):Cell.isSl (.fv a b c d e)=false:=rfl
@[simp] theorem ZzD (e:Nat) (els:List (List Cell)):Cell.isSl (.own e els)=false:=rfl
@[simp] theorem Zzi {k:IntKind}{l:List Int}:(Zf k l).any (fun l=>l.any Cell.isSl)=false:=by simp[Zf,List.any_map]
@[simp] theorem ZAh {n:Nat}{k:IntKind}{a:Arr n}:(arC k a).any Cell.isSl=false:=by simp[arC,ints]
@[simp] theorem ZzE {n:Nat}{k:IntKind}{l:List (Arr n)}:(List.map (arC k) l).any (fun l=>l.any Cell.isSl)=false:=by simp[List.any_map]
@[simp] theorem Zzj {bx:Boxes}{ns:List Nat}{n:Nat}{l:List Cell}:YR bx ns (List.replicate n l)=List.replicate n (ZfX bx ns l):=by simp[YR]
@[simp] theorem Zzk {bx:Boxes}{ns:List Nat}{els:List (List Cell)}{n:Nat}{l:List Cell}:YR bx ns (els.set n l)=(YR bx ns els).set n (ZfX bx ns l):=by simp[YR,List.map_set]
@[simp] theorem ZyM {bx:Boxes}{ns:List Nat}{els:List (List Cell)}{n:Nat}:YR bx ns (els.take n)=(YR bx ns els).take n:=by simp[YR]
@[simp] theorem ZyN {bx:Boxes}{ns:List Nat}{els:List (List Cell)}{n:Nat}:YR bx ns (els.drop n)=(YR bx ns els).drop n:=by simp[YR]
@[simp] theorem ZyO {n:Nat}{l:List Cell}(h:Yb l=true):ZA (List.replicate n l)=true:=by
 simp only[ZA,List.all_eq_true,List.mem_replicate];rintro x ⟨_,rfl⟩
 exact h
theorem Zoh {a b:List (List Cell)}(h:∀ x∈a,x∈b) (hb:ZA b=true):ZA a=true:=by
 simp only[ZA,List.all_eq_true] at *;exact fun x hx=>hb x (h x hx)
@[simp] theorem Zyq {n:Nat}{els:List (List Cell)}(h:ZA els=true):ZA (els.take n)=true:=Zoh (fun _=>List.mem_of_mem_take) h
@[simp] theorem Zyr {n:Nat}{els:List (List Cell)}(h:ZA els=true):ZA (els.drop n)=true:=Zoh (fun _=>List.mem_of_mem_drop) h
@[simp] theorem ZyP {n:Nat}{els:List (List Cell)}{l:List Cell}(h:ZA els=true) (hl:Yb l=true):ZA (els.set n l)=true:=by
 simp only[ZA,List.all_eq_true] at *;intro x hx;rcases List.mem_or_eq_of_mem_set hx with h1 | rfl
 ·exact h x h1
 ·exact hl
@[simp] theorem ZyQ {k:IntKind}{l:List Int}{i:Nat}(h:i<(Zf k l).length):(Zf k l)[i]=[.v (.int k (l[i]'(by simpa using h)))]:=by simp[Zf]
theorem YC {α:Type}{l:List α}{i:Nat}{x:α}(h:l[i]? = some x):∀ h':i<l.length,l[i]=x:=fun h'=>by
 rw[List.getElem?_eq_getElem h'] at h;injection h
@[simp] theorem bits_u64:IntKind.u64.bits=64:=rfl
@[simp] theorem bits_u32:IntKind.u32.bits=32:=rfl
@[simp] theorem bits_u16:IntKind.u16.bits=16:=rfl
@[simp] theorem bits_u8:IntKind.u8.bits=8:=rfl
@[simp] theorem bits_i64:IntKind.i64.bits=64:=rfl
@[simp] theorem bits_i32:IntKind.i32.bits=32:=rfl
@[simp] theorem maxLen_eq:maxLen=9223372036854775807:=rfl
@[simp] theorem Zzl {n m:Nat}{k:IntKind}{a:Arr n}(h:m≤n):X4 1 m (arC k a)=(Zf k a.l).take m:=by
 unfold arC;rw[chunk_ints (by rw[a.hl]; exact h),ZlR]
@[simp] theorem Zwv {n m o:Nat}{k:IntKind}{a:Arr n}(h:o+m≤n):X4 1 m ((arC k a).drop o)=((Zf k a.l).drop o).take m:=by
 unfold arC;rw[ZtJ,chunk_ints (by have:=a.hl; simp; omega),Zof,ZlR]
@[simp] theorem ZAi {n:Nat}{a:Arr n}:a.l.length=n:=a.hl
@[simp] theorem Zys {n:Nat}{k:IntKind}{a b:Arr n}{s t:List Cell}:cellsEq (arC k a++s) (arC k b++t)=(match cellsEq s t with | some c=>some (decide (a=b) && c) | none=>none):=by
 have h:∀ {l m:List Int},l.length=m.length→cellsEq (ints k l++s) (ints k m++t)=(match cellsEq s t with | some c=>some ((l == m) && c) | none=>none):=by
  intro l;induction l with
  | nil=>intro m h; cases m with
   | nil=>simp[ints]; cases cellsEq s t <;> rfl
   | cons y m=>simp at h
  | cons x l ih=>intro m h; cases m with
   | nil=>simp at h
   | cons y m =>
    have:=ih (m:=m) (by simpa using h);simp only[ints] at this;simp only[ints,List.map_cons,List.cons_append,cellsEq,cellEq,if_true,this];cases cellsEq s t with
    | none=>rfl
    | some c=>simp[List.cons_beq_cons,Bool.and_assoc]
 unfold arC;rw[h (by rw[a.hl,b.hl])]
 have e:(a.l == b.l)=decide (a=b):=by
  cases a; cases b
  rw[Bool.eq_iff_iff];simp
 rw[e]
@[simp] theorem Zyt {n:Nat}{k k':IntKind}(a b:Arr n) (cs ds:List Cell):Zz (arC k a++cs) 0 (arC k' b++ds)=arC k' b++Zz cs 0 ds:=by
 unfold Zz;simp only[List.take_zero,List.nil_append,Nat.zero_add,List.length_append,Zws,List.drop_append,List.append_assoc];rw[List.drop_of_length_le (by simp)];simp
theorem Znt {α:Type}{f:α→List Cell}{s:Nat}(h:∀ a,(f a).length=s) (m:List α):(∀ l,l∈List.map f m→l.length=s)=True:=eq_true fun l hl=>by
 obtain⟨a,_,rfl⟩:=List.mem_map.1 hl;exact h a
@[simp↓] theorem ZAj {n:Nat}{k:IntKind}(m:List (Arr n)):(∀ l,l∈List.map (arC k) m→l.length=n)=True:=Znt (by simp) m
def frS (b:Bool) (bx:Boxes):List Nat→List (Nat×Box)
 | []=>[]
 | x :: l=>if b then Xl bx (x :: l) else[]
@[simp] theorem ZAk (b:Bool) (bx:Boxes):frS b bx []=[]:=rfl
@[simp] theorem Zzm (bx:Boxes) (l:List Nat):frS false bx l=[]:=by cases l <;> rfl
@[simp] theorem ZzF (bx:Boxes) (l:List Nat):frS true bx l=Xl bx l:=by cases l <;> rfl
theorem ZtP (T:Tab) (d:Option Nat) (f:FuncId) (ps:List PV) (bx:Boxes):Zjq T d f ps bx=(match Zp2 T f,Zje bx (T.own (d.getD 90000)) ps with
 | some F,some qs =>
  match F qs with
  | some (r,outs) =>
   match ZeS bx (ioPs (T.own (d.getD 90000)) ps) outs,Zj5 bx (d.getD 90000) r with
   | some (bo,br),some (p,bn) =>
    if nodupB (ioPs (T.own (d.getD 90000)) ps++(br++bn).map (·.1)) && (XA bx (T.own (d.getD 90000)) ps).all (fun x=>!(ioPs (T.own (d.getD 90000)) ps++Zcq bx (T.own (d.getD 90000)) ps++(br++bn).map (·.1)).contains x) && (bn.isEmpty || d.isSome) && Zbs ((br++bn).map (·.1)) && nodupB (ioPs (T.own (d.getD 90000)) ps++Zcq bx (T.own (d.getD 90000)) ps) && (!(hasSlR r || outs.any hasSlL) || Zbs (XA bx (T.own (d.getD 90000)) ps)) then
     some ⟨Zcp d p,frS (hasSlR r || outs.any hasSlL) bx (XA bx (T.own (d.getD 90000)) ps)++bo++(br++bn++Zjf bx ((Zcq bx (T.own (d.getD 90000)) ps).filter fun x=>!((br++bn).map (·.1)).contains x)),XA bx (T.own (d.getD 90000)) ps++ioPs (T.own (d.getD 90000)) ps++Zcq bx (T.own (d.getD 90000)) ps++(br++bn).map (·.1)⟩
    else none
   | _,_=>none
  | none=>none
 | _,_=>none):=by
 have h:∀ (b:Bool) l,(if b then Xl bx l else[])=frS b bx l:=by
  intro b l;cases b <;> simp[-Xl]
 unfold Zjq;simp only[h];rfl
attribute [simp] ZtP
theorem Zoi {P:Program}(w:World) (t ty e:TypeId) (i:TypeInfo) (ht:P.underlying t=some (.slice e)) (hi:P.info? e=some i) (b x:Option Addr) (n c c':Nat) (hc:n≤c) :
  (Builtin.append_ #[t,t] ty #[.slice b n c,.slice x 0 c']).run P w = .ok (.slice b n c) w:=by
 have hf:∀ y:Option Addr,(Builtin.firstCells i.size 0 (.slice y 0 c')).run P w = .ok #[] w:=by
  intro y;cases y with
  | none=>simp[Builtin.firstCells]
  | some y=>simp[Builtin.firstCells,loadCells,loadCellsFrom]
 cases b <;> simp[Builtin.append_,run_underlying ht,sizeOf,typeInfo,hi,Builtin.lenOf,hc,hf,storeCells]
theorem ZsO {P:Program}{G:Glob}{f:FuncId}{fn:Func}{α:Type}{e t N:Nat}{rows:List α→List (List Cell)}(hfn:P.funcs[f]? = some fn) (hb:fn.body.isNone=false) (hnm:(fn.name == "runtime.NumGoroutine")=false)
  (F:List PV→Option (PV×List (List Cell))) (hF:∀ ps r,F ps=some r→∃ l:List α,ps=[.one (.slice .no (rows l))]∧r=(.one (.own e (rows l)),[]))
  (hnil:rows []=[])
  (h1:∀ l,l≠[]→∀ r,F [.one (.slice .no (rows l))]=some r→ZB P G f fun ps=>by classical exact if ps=[.one (.slice .no (rows l))] then some r else none)
  (h2:∀ (x:Option Addr) (c:Nat) (w:World),Calls P f #[.slice x 0 c] w fun ee w'=>∃ y,ee = .returned (.slice y 0 0)∧(w'=w∨w'=w.alloc (.cells #[] t))):ZB P G f F:=by
 refine⟨⟨fn,hfn,hb,hnm⟩,?_⟩;intro S w ks hh ps vs r outs hg hs ha hk hFr;obtain⟨l,rfl,hr⟩:=hF ps _ hFr;by_cases hl:l=[]
 ·subst hl
  rw[hnil] at ha hr;injection hr with hr1 hr2;subst hr1 hr2;cases ha with
  | one ha1 ha =>
   cases ha
   cases ha1 with
   | pure ha1 =>
   obtain⟨x,c,hv,_⟩:=ha1.len;simp at hv
   subst hv;refine(h2 x c w).mono ?_;rintro ee w' ⟨y,rfl,rfl | rfl⟩
   ·exact⟨_,S,_,_,rfl,.base (.one (.none e y)),.skip (by simp) (by simp) .nil,by simp[Zr],Xz.refl _ _ _,fun _ _ h=>h,fun _ _ h=>.inl h,hs⟩
   ·have hh:(w.alloc (.cells #[] t)).heap=w.heap.push (.cells #[] t):=rfl
    refine⟨_,S,_,_,rfl,.base (.one (.none e y)),.skip (by simp) (by simp) .nil,by simp[Zr],⟨rfl,rfl,rfl,by rw[hh]; simp,fun b hb _=>(by rw[hh]; simp[Array.getElem?_push,Nat.ne_of_lt hb]),fun b arr T _ ha=>⟨arr,T,(by rw[hh,Array.getElem?_push]; have hb:=XS ha; simp[Nat.ne_of_lt hb,ha]),Nat.le_refl _⟩⟩,fun _ _ h=>h,fun _ _ h=>.inl h,fun b o h=>by have:=hs b o h; rw[hh]; simp; omega⟩
 ·exact(h1 l hl _ hFr).2 S w ks hh _ vs r outs hg hs ha hk (by simp)
@[simp] theorem Zww {n:Nat}{k:IntKind}{l:List Int}(h:l.length=n):arC k (⟨l,h⟩:Arr n)=ints k l:=rfl
@[simp] theorem Zvd {k:IntKind}:ints k []=[]:=rfl
@[simp] theorem ZtQ {k:IntKind}{x:Int}{l:List Int}:ints k (x :: l) = .v (.int k x) :: ints k l:=rfl
def Zb7 {K V:Type}[DecidableEq K] (k:K):List (K×V)→Option V
 | []=>none
 | (a,v) :: l=>if k=a then some v else Zb7 k l
def ZeY {K V:Type}[DecidableEq K] (k:K) (v:V):List (K×V)→List (K×V)
 | []=>[(k,v)]
 | (a,w) :: l=>if k=a then(k,v) :: l else(a,w) :: ZeY k v l
section
variable {K V:Type}[DecidableEq K]{n:Nat}{eK:K→List Cell}{eV:V→List Cell}
theorem Zqz (hn:∀ k,(eK k).length=n) (he:∀ a b,kEq (eK a) (eK b)=decide (a=b)) (k:K):∀ l:List (K×V),ZhC n (eK k) (l.map fun x=>eK x.1++eV x.2)=(Zb7 k l).map eV
 | []=>rfl
 | (a,v) :: l=>by
  simp only[List.map_cons,ZhC,Zb7,List.take_left' (hn a),List.drop_left' (hn a),he];by_cases h:k=a
  ·simp[h]
  ·simp[h,Zqz hn he k l]
theorem ZqA (hn:∀ k,(eK k).length=n) (he:∀ a b,kEq (eK a) (eK b)=decide (a=b)) (k:K) (v:V):∀ l:List (K×V),ZiH n (eK k) (eV v) (l.map fun x=>eK x.1++eV x.2)=(ZeY k v l).map fun x=>eK x.1++eV x.2
 | []=>rfl
 | (a,w) :: l=>by
  simp only[List.map_cons,ZiH,ZeY,List.take_left' (hn a),he];by_cases h:k=a
  ·simp[h]
  ·simp[h,ZqA hn he k v l]
end
@[simp] theorem Zrq {n:Nat}{k k':IntKind}{a b:Arr n}{s t:List Cell}:kEq (arC k a++s) (arC k' b++t)=(decide (a=b) && kEq s t):=by
 have h:∀ {l m:List Int},l.length=m.length→kEq (ints k l++s) (ints k' m++t)=((l == m) && kEq s t):=by
  intro l;induction l with
  | nil=>intro m h; cases m with
   | nil=>simp[ints]
   | cons y m=>simp at h
  | cons x l ih=>intro m h; cases m with
   | nil=>simp at h
   | cons y m =>
    have:=ih (m:=m) (by simpa using h);simp only[ints] at this;simp only[ints,List.map_cons,List.cons_append,kEq,kEq1,this,List.cons_beq_cons,Bool.and_assoc]
 unfold arC;rw[h (by rw[a.hl,b.hl])]
 have e:(a.l == b.l)=decide (a=b):=by
  cases a; cases b
  rw[Bool.eq_iff_iff];simp
 rw[e]
@[simp] theorem ZAl {n:Nat}{k k':IntKind}{a b:Arr n}:kEq (arC k a) (arC k' b)=decide (a=b):=by
 have:=Zrq (k:=k) (k' := k') (a:=a) (b:=b) (s:=[]) (t:=[]);simpa[kEq] using this
@[simp] theorem ZpR {n:Nat}{k:IntKind}{a b:Arr n}{s t:List Cell}:kKind (arC k a++s) (arC k b++t)=kKind s t:=by
 have h:∀ {l m:List Int},l.length=m.length→kKind (ints k l++s) (ints k m++t)=kKind s t:=by
  intro l;induction l with
  | nil=>intro m h; cases m with
   | nil=>simp[ints]
   | cons y m=>simp at h
  | cons x l ih=>intro m h; cases m with
   | nil=>simp at h
   | cons y m =>
    have:=ih (m:=m) (by simpa using h);simp only[ints] at this;simp[ints,kKind,kKind1,this]
 unfold arC;exact h (by rw[a.hl,b.hl])
@[simp] theorem Zzn {n:Nat}{k:IntKind}{a b:Arr n}:kKind (arC k a) (arC k b)=true:=by
 have:=ZpR (k:=k) (a:=a) (b:=b) (s:=[]) (t:=[]);simpa[kKind] using this
@[simp] theorem ZAm {n:Nat}{k:IntKind}{a:Arr n}:(arC k a).all Cell.isI=true:=by simp[arC,ints,Cell.isI]
def ZgA (l:List Int):ByteArray:=⟨(l.map fun n=>UInt8.ofNat n.toNat).toArray⟩
def ZkD (s:ByteArray):List Int:=s.data.toList.map fun b=>(b.toNat:Int)
@[simp] theorem ZxD (l:List Int):ZmX (Zf .u8 l)=some (ZgA l):=by
 have:bytesL (Zf .u8 l)=some (l.map fun n=>UInt8.ofNat n.toNat):=by
  induction l with
  | nil=>rfl
  | cons x l ih=>simp only[Zf,List.map_cons] at *; simp[bytesL,byteOf,ih]
 simp[ZmX,this,ZgA]
@[simp] theorem ZyR (s:ByteArray):(s.data.toList.map fun b=>[Cell.v (.int .u8 (b.toNat:Int))])=Zf .u8 (ZkD s):=by simp[Zf,ZkD]
@[simp] theorem Zyu (bx:Boxes) (o:Own) (els:List (List Cell)):Zho bx (.slice o els)=some els:=rfl
@[simp] theorem ZzG (a b:ByteArray):pureOf (Op.stringOp .eql a b)=some (.bool (decide (a=b))):=by
 have:(a == b)=decide (a=b):=by
  rw[Bool.eq_iff_iff,MapKept.bytes_beq];simp
 show some (Value.bool (a.toList == b.toList))=_
 rw[← beq_toListBytes,this]
@[simp] theorem ZzH (a b:ByteArray):pureOf (Op.stringOp .neq a b)=some (.bool (!decide (a=b))):=by
 have:(a == b)=decide (a=b):=by
  rw[Bool.eq_iff_iff,MapKept.bytes_beq];simp
 show some (Value.bool (!(a.toList == b.toList)))=_
 rw[← beq_toListBytes,this]
end Go.Av
namespace Go.Lc
open Go.RowKit
open Go.Av
set_option linter.unusedVariables false
set_option linter.unusedSimpArgs false
section
set_option maxRecDepth 100000
abbrev Tapi_OutPoint:=(Arr 32)×Int
abbrev Tapi_Output:=Int×(List Int)
abbrev Tapi_Coin:=Tapi_OutPoint×Tapi_Output×Int×Bool
abbrev Tapi_Input:=Tapi_OutPoint×Int×(List (List Int))
abbrev Tapi_Tx:=Int×(List Tapi_Input)×(List Tapi_Output)×Int
noncomputable def Xd (a0:Int):Option ((List Int)) :=
 some ([1,1,IntKind.u8.wrap (1+((a0).tmod 6)),5])
noncomputable def YD (a0:(List Int)) (a1:(List Int)):Option ((List Int)) :=
 (chk (0≤IntKind.i64.wrap ((a0.length:Int)+(a1.length:Int))∧IntKind.i64.wrap ((a0.length:Int)+(a1.length:Int))≤140737488355328)).bind fun _=>(chk (a0.length≤140737488355328)).bind fun _=>(chk (a0.length+a1.length≤140737488355328)).bind fun _=>some (a0++a1)
noncomputable def ZeZ (p9:(List Int)):Option (List Int) :=
 some (p9)
noncomputable def ZcZ (a1:Int) (a0:Int):(Int×(List Int))→Option ((Int×(List Int)) ⊕ ((List Int)))
 | (p8,p9)=>(if p8<a1 then(chk (¬ (IntKind.i64.wrap (8 * p8)<0))).bind fun _=>(inA (p9.length) (p8)).bind fun j13=>some (.inl (IntKind.i64.wrap (p8+1),(p9).set j13 (IntKind.u8.wrap ((a0).fdiv (2 ^ (min (IntKind.i64.wrap (8 * p8)).toNat 64)))))) else(ZeZ p9).map Sum.inr)
noncomputable def Xe (a0:Int) (a1:Int):Option ((List Int)) :=
 (chk (0≤a1∧a1≤140737488355328)).bind fun _=>Zd (ZcZ a1 a0) (0,List.replicate ((a1).toNat) 0)
noncomputable def Z7 (a0:(List Int)) (a1:Int):Option ((List Int)) :=
 (Xe (IntKind.u64.wrap (a1)) 4).bind fun y1=>(YD a0 y1).bind fun y2=>some (y2)
noncomputable def Zao (a0:(List Int)) (a1:Int):Option ((List Int)) :=
 (Xe a1 8).bind fun y1=>(YD a0 y1).bind fun y2=>some (y2)
noncomputable def Zbe (a0:(List Int)) (a1:Int):Option ((List Int)) :=
 (Xe (IntKind.u64.wrap (a1)) 2).bind fun y1=>(YD a0 y1).bind fun y2=>some (y2)
noncomputable def YM (a0:(List Int)) (a1:Int):Option ((List Int)) :=
 (if a1<253 then(YD a0 [IntKind.u8.wrap (a1)]).bind fun y1=>some (y1) else(if a1<65536 then(YD a0 [253]).bind fun y2=>(Zbe y2 (IntKind.u16.wrap (a1))).bind fun y3=>some (y3) else(if a1<4294967296 then(YD a0 [254]).bind fun y4=>(Z7 y4 (IntKind.u32.wrap (a1))).bind fun y5=>some (y5) else(YD a0 [255]).bind fun y6=>(Zao y6 a1).bind fun y7=>some (y7))))
noncomputable def Xk (a0:(List Int)) (a1:(Arr 32)):Option ((List Int)) :=
 (YD a0 a1.l).bind fun y1=>some (y1)
noncomputable def ZeM (a0:Tapi_OutPoint):Option ((List Int)) :=
 (Xk ([]:(List Int)) a0.1).bind fun y1=>(Z7 y1 a0.2).bind fun y2=>some (y2)
noncomputable def XD (a0:(List Int)) (a1:(List Int)):Option ((List Int)) :=
 (YM a0 (IntKind.u64.wrap ((a1.length:Int)))).bind fun y1=>(YD y1 a1).bind fun y2=>some (y2)
noncomputable def Zb8 (p81:(List Int)):Option (List Int) :=
 some (p81)
noncomputable def Zb9 (p80:Int) (p110:(List Int)):Option ((Int×(List Int)) ⊕ ((List Int))) :=
 some (.inl (IntKind.i64.wrap (p80+1),p110))
noncomputable def Zdv (x98:Tapi_Input) (p80:Int):(Int×(List Int))→Option ((Int×(List Int)) ⊕ ((Int×(List Int)) ⊕ ((List Int))))
 | (p109,p110)=>(if p109<(x98.2.2.length:Int) then(idx (x98.2.2) (p109)).bind fun x114=>(XD ([]:(List Int)) x114).bind fun y115=>(chk (p110.length+y115.length≤140737488355328)).bind fun _=>some (.inl (IntKind.i64.wrap (p109+1),p110++y115)) else(Zb9 p80 p110).map Sum.inr)
noncomputable def Zfh (a0:Tapi_Tx):(Int×(List Int))→Option ((Int×(List Int)) ⊕ ((List Int)))
 | (p80,p81)=>(if p80<(a0.2.1.length:Int) then(idx (a0.2.1) (p80)).bind fun x98=>(YM ([]:(List Int)) (IntKind.u64.wrap ((x98.2.2.length:Int)))).bind fun y99=>(chk (p81.length+y99.length≤140737488355328)).bind fun _=>Zd (Zdv x98 p80) (0,p81++y99) else(Zb8 p81).map Sum.inr)
noncomputable def Za2 (a0:Tapi_Tx) (p38:(List Int)) (a1:Bool):Option (List Int) :=
 (Z7 ([]:(List Int)) a0.2.2.2).bind fun y44=>(chk (p38.length+y44.length≤140737488355328)).bind fun _=>(if ¬ (a1=true) then some (p38++y44) else Zd (Zfh a0) (0,p38++y44))
noncomputable def Zfi (a0:Tapi_Tx) (a1:Bool):(Int×(List Int))→Option ((Int×(List Int)) ⊕ ((List Int)))
 | (p37,p38)=>(if p37<(a0.2.2.1.length:Int) then(idx (a0.2.2.1) (p37)).bind fun x117=>(Zao ([]:(List Int)) (IntKind.u64.wrap (x117.1))).bind fun y118=>(chk (p38.length+y118.length≤140737488355328)).bind fun _=>(XD ([]:(List Int)) x117.2).bind fun y120=>(chk (p38.length+y118.length+y120.length≤140737488355328)).bind fun _=>some (.inl (IntKind.i64.wrap (p37+1),p38++y118++y120)) else(Za2 a0 p38 a1).map Sum.inr)
noncomputable def Za3 (a0:Tapi_Tx) (p17:(List Int)) (a1:Bool):Option (List Int) :=
 (YM ([]:(List Int)) (IntKind.u64.wrap ((a0.2.2.1.length:Int)))).bind fun y23=>(chk (p17.length+y23.length≤140737488355328)).bind fun _=>Zd (Zfi a0 a1) (0,p17++y23)
noncomputable def Zfj (a0:Tapi_Tx) (a1:Bool):(Int×(List Int))→Option ((Int×(List Int)) ⊕ ((List Int)))
 | (p16,p17)=>(if p16<(a0.2.1.length:Int) then(idx (a0.2.1) (p16)).bind fun x122=>(ZeM x122.1).bind fun y123=>(chk (p17.length+y123.length≤140737488355328)).bind fun _=>(Z7 ([]:(List Int)) x122.2.1).bind fun y125=>(chk (p17.length+y123.length+y125.length≤140737488355328)).bind fun _=>some (.inl (IntKind.i64.wrap (p16+1),p17++y123++y125)) else(Za3 a0 p17 a1).map Sum.inr)
noncomputable def Ze0 (a0:Tapi_Tx) (a1:Bool):Option ((List Int)) :=
 (Z7 ([]:(List Int)) a0.1).bind fun y1=>(YM ([]:(List Int)) (IntKind.u64.wrap ((a0.2.1.length:Int)))).bind fun y2=>(chk (y1.length+y2.length≤140737488355328)).bind fun _=>Zd (Zfj a0 a1) (0,y1++y2)
noncomputable def Zd0 (a0:Tapi_Tx):Option Bool :=
 (Ze0 a0 true).bind fun y26=>some (decide ((y26.length:Int)≤20000))
noncomputable def ZfG (p19:Int):Option ((Int) ⊕ (Bool)) :=
 some (.inl (IntKind.i64.wrap (p19+1)))
noncomputable def Zd1 (x27:Tapi_Input) (p19:Int):Int→Option ((Int) ⊕ ((Int) ⊕ (Bool)))
 | p31=>(if p31<(x27.2.2.length:Int) then(idx (x27.2.2) (p31)).bind fun x33=>(if 520<(x33.length:Int) then some (.inr (.inr (false))) else some (.inl (IntKind.i64.wrap (p31+1)))) else(ZfG p19).map Sum.inr)
noncomputable def ZfH (a0:Tapi_Tx):Int→Option ((Int) ⊕ (Bool))
 | p19=>(if p19<(a0.2.1.length:Int) then(idx (a0.2.1) (p19)).bind fun x27=>(if 32<(x27.2.2.length:Int) then some (.inr (false)) else Zd (Zd1 x27 p19) 0) else(Zd0 a0).map Sum.inr)
noncomputable def Zd2 (a0:Tapi_Tx):Option Bool :=
 Zd (ZfH a0) 0
noncomputable def ZfI (a0:Tapi_Tx):Int→Option ((Int) ⊕ (Bool))
 | p4=>(if p4<(a0.2.2.1.length:Int) then(idx (a0.2.2.1) (p4)).bind fun x34=>(if (x34.1<0∨520<(x34.2.length:Int)) then some (.inr (false)) else some (.inl (IntKind.i64.wrap (p4+1)))) else(Zd2 a0).map Sum.inr)
noncomputable def ZhF (a0:Tapi_Tx):Option (Bool) :=
 (if (64<(a0.2.1.length:Int)∨64<(a0.2.2.1.length:Int)) then some (false) else Zd (ZfI a0) 0)
noncomputable def Ye (a0:(List Int)) (a1:(List Int)):Option ((List Int)) :=
 (chk (0≤IntKind.i64.wrap ((a0.length:Int)+(a1.length:Int))∧IntKind.i64.wrap ((a0.length:Int)+(a1.length:Int))≤140737488355328)).bind fun _=>(chk (a0.length≤140737488355328)).bind fun _=>(chk (a0.length+a1.length≤140737488355328)).bind fun _=>some (a0++a1)
noncomputable def Ze1 (p9:(List Int)):Option (List Int) :=
 some (p9)
noncomputable def Zc0 (a1:Int) (a0:Int):(Int×(List Int))→Option ((Int×(List Int)) ⊕ ((List Int)))
 | (p8,p9)=>(if p8<((List.replicate ((a1).toNat) 0).length:Int) then(chk (¬ (IntKind.i64.wrap (8 * p8)<0))).bind fun _=>(inA (p9.length) (p8)).bind fun j13=>some (.inl (IntKind.i64.wrap (p8+1),(p9).set j13 (IntKind.u8.wrap ((a0).fdiv (2 ^ (min (IntKind.i64.wrap (8 * p8)).toNat 64)))))) else(Ze1 p9).map Sum.inr)
noncomputable def Yf (a0:Int) (a1:Int):Option ((List Int)) :=
 (chk (0≤a1∧a1≤140737488355328)).bind fun _=>Zd (Zc0 a1 a0) (0,List.replicate ((a1).toNat) 0)
noncomputable def Z2 (a0:(List Int)) (a1:Int):Option ((List Int)) :=
 (Yf (IntKind.u64.wrap (a1)) 4).bind fun y1=>(Ye a0 y1).bind fun y2=>some (y2)
noncomputable def YN (a0:(List Int)) (a1:Int):Option ((List Int)) :=
 (if a1<253 then(Yf a1 1).bind fun y1=>(Ye a0 y1).bind fun y2=>some (y2) else(if a1<65536 then(Yf a1 2).bind fun y3=>(Ye [253] y3).bind fun y4=>(Ye a0 y4).bind fun y5=>some (y5) else(if a1<4294967296 then(Yf a1 4).bind fun y6=>(Ye [254] y6).bind fun y7=>(Ye a0 y7).bind fun y8=>some (y8) else(Yf a1 8).bind fun y9=>(Ye [255] y9).bind fun y10=>(Ye a0 y10).bind fun y11=>some (y11))))
noncomputable def Yw (a0:(List Int)) (a1:(Arr 32)):Option ((List Int)) :=
 (Ye a0 a1.l).bind fun y1=>some (y1)
noncomputable def Zc1 (a0:Tapi_OutPoint):Option ((List Int)) :=
 (Yw ([]:(List Int)) a0.1).bind fun y1=>(Z2 y1 a0.2).bind fun y2=>some (y2)
noncomputable def XE (a0:(List Int)) (a1:(List Int)):Option ((List Int)) :=
 (YN a0 (IntKind.u64.wrap ((a1.length:Int)))).bind fun y1=>(Ye y1 a1).bind fun y2=>some (y2)
noncomputable def Zbf (a0:(List Int)) (a1:Int):Option ((List Int)) :=
 (Yf a1 8).bind fun y1=>(Ye a0 y1).bind fun y2=>some (y2)
noncomputable def ZdP (a0:Tapi_Output):Option ((List Int)) :=
 (Zbf ([]:(List Int)) (IntKind.u64.wrap (a0.1))).bind fun y1=>(XE y1 a0.2).bind fun y2=>some (y2)
noncomputable def YS (p61:(List Int)):Option (List Int) :=
 some (p61)
noncomputable def Zap (p60:Int) (p83:(List Int)):Option ((Int×(List Int)) ⊕ ((List Int))) :=
 some (.inl (IntKind.i64.wrap (p60+1),p83))
noncomputable def Zbg (x74:Tapi_Input) (p60:Int):(Int×(List Int))→Option ((Int×(List Int)) ⊕ ((Int×(List Int)) ⊕ ((List Int))))
 | (p82,p83)=>(if p82<(x74.2.2.length:Int) then(idx (x74.2.2) (p82)).bind fun x86=>(XE p83 x86).bind fun y87=>some (.inl (IntKind.i64.wrap (p82+1),y87)) else(Zap p60 p83).map Sum.inr)
noncomputable def Zaq (a0:Tapi_Tx) (a1:Bool):(Int×(List Int))→Option ((Int×(List Int)) ⊕ ((List Int)))
 | (p60,p61)=>(if p60<(a0.2.1.length:Int) then(idx (a0.2.1) (p60)).bind fun x74=>(if ¬ (a1=true) then(YS p61).map Sum.inr else(YN p61 (IntKind.u64.wrap ((x74.2.2.length:Int)))).bind fun y75=>Zd (Zbg x74 p60) (0,y75)) else(YS p61).map Sum.inr)
noncomputable def XF (p29:(List Int)) (a0:Tapi_Tx) (a1:Bool):Option (List Int) :=
 (Z2 p29 a0.2.2.2).bind fun y33=>Zd (Zaq a0 a1) (0,y33)
noncomputable def Zc2 (a0:Tapi_Tx) (a1:Bool):(Int×(List Int))→Option ((Int×(List Int)) ⊕ ((List Int)))
 | (p28,p29)=>(if p28<(a0.2.2.1.length:Int) then(idx (a0.2.2.1) (p28)).bind fun x88=>(ZdP x88).bind fun y89=>(chk (p29.length+y89.length≤140737488355328)).bind fun _=>some (.inl (IntKind.i64.wrap (p28+1),p29++y89)) else(XF p29 a0 a1).map Sum.inr)
noncomputable def XG (p14:(List Int)) (a0:Tapi_Tx) (a1:Bool):Option (List Int) :=
 (YN p14 (IntKind.u64.wrap ((a0.2.2.1.length:Int)))).bind fun y19=>Zd (Zc2 a0 a1) (0,y19)
noncomputable def Zc3 (a0:Tapi_Tx) (a1:Bool):(Int×(List Int))→Option ((Int×(List Int)) ⊕ ((List Int)))
 | (p13,p14)=>(if p13<(a0.2.1.length:Int) then(idx (a0.2.1) (p13)).bind fun x91=>(Zc1 x91.1).bind fun y92=>(chk (p14.length+y92.length≤140737488355328)).bind fun _=>(Z2 (p14++y92) x91.2.1).bind fun y94=>some (.inl (IntKind.i64.wrap (p13+1),y94)) else(XG p14 a0 a1).map Sum.inr)
noncomputable def Zai (a0:Tapi_Tx) (a1:Bool):Option ((List Int)) :=
 (Z2 ([]:(List Int)) a0.1).bind fun y1=>(YN y1 (IntKind.u64.wrap ((a0.2.1.length:Int)))).bind fun y2=>Zd (Zc3 a0 a1) (0,y2)
noncomputable def Zbh (a0:Tapi_Tx):Option Bool :=
 (Zai a0 true).bind fun y26=>some (decide ((y26.length:Int)≤20000))
noncomputable def ZcG (p19:Int):Option ((Int) ⊕ (Bool)) :=
 some (.inl (IntKind.i64.wrap (p19+1)))
noncomputable def Zbi (x27:Tapi_Input) (p19:Int):Int→Option ((Int) ⊕ ((Int) ⊕ (Bool)))
 | p31=>(if p31<(x27.2.2.length:Int) then(idx (x27.2.2) (p31)).bind fun x33=>(if 520<(x33.length:Int) then some (.inr (.inr (false))) else some (.inl (IntKind.i64.wrap (p31+1)))) else(ZcG p19).map Sum.inr)
noncomputable def ZcH (a0:Tapi_Tx):Int→Option ((Int) ⊕ (Bool))
 | p19=>(if p19<(a0.2.1.length:Int) then(idx (a0.2.1) (p19)).bind fun x27=>(if 32<(x27.2.2.length:Int) then some (.inr (false)) else Zd (Zbi x27 p19) 0) else(Zbh a0).map Sum.inr)
noncomputable def Zbj (a0:Tapi_Tx):Option Bool :=
 Zd (ZcH a0) 0
noncomputable def ZcI (a0:Tapi_Tx):Int→Option ((Int) ⊕ (Bool))
 | p4=>(if p4<(a0.2.2.1.length:Int) then(idx (a0.2.2.1) (p4)).bind fun x34=>(if (x34.1<0∨520<(x34.2.length:Int)) then some (.inr (false)) else some (.inl (IntKind.i64.wrap (p4+1)))) else(Zbj a0).map Sum.inr)
noncomputable def Zac (a0:Tapi_Tx):Option (Bool) :=
 (if (64<(a0.2.1.length:Int)∨64<(a0.2.2.1.length:Int)) then some (false) else Zd (ZcI a0) 0)
noncomputable def Lmade_Null:Option (Tapi_OutPoint) :=
 some ((zA 32,4294967295))
noncomputable def ZkE (a0:Tapi_OutPoint):Option (Bool) :=
 some ((decide (a0.1=zA 32) && decide (a0.2=4294967295)))
noncomputable def Zc4 (a0:Tapi_Tx):Option (Bool) :=
 ((if (a0.2.1.length:Int)=1 then((a0.2.1)[0]?).bind fun x1=>(ZkE x1.1).bind fun y2=>some (y2) else some (false))).bind fun z3=>some ((decide ((a0.2.1.length:Int)=1) && z3))
noncomputable def Ltx_money_k1:Option Bool :=
 some (true)
noncomputable def Zgh (a0:(List Tapi_Output)):(Int×Int)→Option ((Int×Int) ⊕ (Bool))
 | (p5,p6)=>(if p6<(a0.length:Int) then(idx (a0) (p6)).bind fun x8=>(if IntKind.i64.wrap (2100000000000000-p5)<x8.1 then some (.inr (false)) else some (.inl (IntKind.i64.wrap (p5+x8.1),IntKind.i64.wrap (p6+1)))) else(Ltx_money_k1).map Sum.inr)
noncomputable def ZmC (a0:(List Tapi_Output)):Option (Bool) :=
 Zd (Zgh a0) (0,0)
noncomputable def ZmD (p8:(List (Tapi_OutPoint×Bool))) (a0:Tapi_Tx):Option Int :=
 ((if (Zb7 (zA 32,4294967295) p8).getD false=true then(Zc4 a0).bind fun y10=>some (!(y10)) else some (false))).bind fun z11=>(if ((Zb7 (zA 32,4294967295) p8).getD false=true∧z11=true) then some (92) else some (0))
noncomputable def Zgi (a0:Tapi_Tx):(Int×(List (Tapi_OutPoint×Bool)))→Option ((Int×(List (Tapi_OutPoint×Bool))) ⊕ (Int))
 | (p7,p8)=>(if p7<(a0.2.1.length:Int) then(idx (a0.2.1) (p7)).bind fun x12=>(if (Zb7 x12.1 p8).getD false=true then some (.inr (91)) else some (.inl (IntKind.i64.wrap (p7+1),ZeY x12.1 true p8))) else(ZmD p8 a0).map Sum.inr)
noncomputable def ZmE (a0:Tapi_Tx):Option (Int) :=
 (ZhF a0).bind fun y1=>(if ¬ (y1=true) then some (4) else(if ((a0.2.1.length:Int)=0∨(a0.2.2.1.length:Int)=0) then some (93) else(ZmC a0.2.2.1).bind fun y2=>(if ¬ (y2=true) then some (90) else Zd (Zgi a0) (0,([]:(List (Tapi_OutPoint×Bool)))))))
noncomputable def ZpS (p5:Int):Option (Int×Bool) :=
 some ((p5,true))
noncomputable def Zfk (a0:(List Tapi_Coin)):(Int×Int)→Option ((Int×Int) ⊕ (Int×Bool))
 | (p5,p6)=>(if p6<(a0.length:Int) then(idx (a0) (p6)).bind fun x8=>(if (x8.2.1.1<0∨IntKind.i64.wrap (2100000000000000-p5)<x8.2.1.1) then some (.inr ((0,false))) else some (.inl (IntKind.i64.wrap (p5+x8.2.1.1),IntKind.i64.wrap (p6+1)))) else(ZpS p5).map Sum.inr)
noncomputable def ZlX (a0:(List Tapi_Coin)):Option (Int×Bool) :=
 Zd (Zfk a0) (0,0)
noncomputable def ZpT (p15:Int):Option (Int×Int) :=
 (if p15<0 then some ((0,100)) else some ((p15,0)))
noncomputable def Zmi (a0:Tapi_Tx):(Int×Int)→Option ((Int×Int) ⊕ (Int×Int))
 | (p15,p16)=>(if p16<(a0.2.2.1.length:Int) then(idx (a0.2.2.1) (p16)).bind fun x18=>some (.inl (IntKind.i64.wrap (p15-x18.1),IntKind.i64.wrap (p16+1))) else(ZpT p15).map Sum.inr)
noncomputable def ZjA (a1:(List Tapi_Coin)) (a0:Tapi_Tx):Option (Int×Int) :=
 (ZlX a1).bind fun y10=>(if ¬ (y10.2=true) then some ((0,90)) else Zd (Zmi a0) (y10.1,0))
noncomputable def Zfl (a1:(List Tapi_Coin)) (a0:Tapi_Tx):Int→Option ((Int) ⊕ (Int×Int))
 | p7=>(if p7<(a1.length:Int) then(idx (a1) (p7)).bind fun x19=>(idx (a0.2.1) (p7)).bind fun x20=>(if ¬ ((x19.1.1=x20.1.1∧x19.1.2=x20.1.2)) then some (.inr ((0,101))) else some (.inl (IntKind.i64.wrap (p7+1)))) else(ZjA a1 a0).map Sum.inr)
noncomputable def Zoj (a0:Tapi_Tx) (a1:(List Tapi_Coin)):Option (Int×Int) :=
 (ZmE a0).bind fun y1=>(if ¬ (y1=0) then some ((0,y1)) else(if ¬ ((a1.length:Int)=(a0.2.1.length:Int)) then some ((0,8)) else Zd (Zfl a1 a0) 0))
noncomputable def Zd3 (a0:Tapi_OutPoint):Option (Bool) :=
 some ((decide (a0.1=zA 32) && decide (a0.2=4294967295)))
noncomputable def X5 (a0:Tapi_Tx):Option (Bool) :=
 ((if (a0.2.1.length:Int)=1 then((a0.2.1)[0]?).bind fun x1=>(Zd3 x1.1).bind fun y2=>some (y2) else some (false))).bind fun z3=>some ((decide ((a0.2.1.length:Int)=1) && z3))
noncomputable def Lref09_Check_k3:Option Int :=
 some (0)
noncomputable def ZbW (a0:Tapi_Tx):Int→Option ((Int) ⊕ (Int))
 | p43=>(if p43<(a0.2.1.length:Int) then(idx (a0.2.1) (p43)).bind fun x48=>(Zd3 x48.1).bind fun y49=>((if y49=true then(X5 a0).bind fun y50=>some (!(y50)) else some (false))).bind fun z51=>(if (y49=true∧z51=true) then some (.inr (92)) else some (.inl (IntKind.i64.wrap (p43+1)))) else(Lref09_Check_k3).map Sum.inr)
noncomputable def X6 (a0:Tapi_Tx):Option Int :=
 Zd (ZbW a0) 0
noncomputable def ZaL (p25:Int):Option ((Int) ⊕ (Int)) :=
 some (.inl (IntKind.i64.wrap (p25+1)))
noncomputable def ZaM (p25:Int) (a0:Tapi_Tx):Int→Option ((Int) ⊕ ((Int) ⊕ (Int)))
 | p57=>(if p57<p25 then(idx (a0.2.1) (p25)).bind fun x60=>(idx (a0.2.1) (p57)).bind fun x61=>(if (x60.1.1=x61.1.1∧x60.1.2=x61.1.2) then some (.inr (.inr (91))) else some (.inl (IntKind.i64.wrap (p57+1)))) else(ZaL p25).map Sum.inr)
noncomputable def ZbX (a0:Tapi_Tx):Int→Option ((Int) ⊕ (Int))
 | p25=>(if p25<(a0.2.1.length:Int) then Zd (ZaM p25 a0) 0 else(X6 a0).map Sum.inr)
noncomputable def Xu (p6:Int) (a0:Tapi_Tx):Option Int :=
 (if 2100000000000000<p6 then some (90) else Zd (ZbX a0) 0)
noncomputable def ZbY (a0:Tapi_Tx):(Int×Int)→Option ((Int×Int) ⊕ (Int))
 | (p6,p7)=>(if p7<(a0.2.2.1.length:Int) then(idx (a0.2.2.1) (p7)).bind fun x62=>(if 2100000000000000<x62.1 then some (.inr (90)) else some (.inl (IntKind.i64.wrap (p6+x62.1),IntKind.i64.wrap (p7+1)))) else(Xu p6 a0).map Sum.inr)
noncomputable def Zc5 (a0:Tapi_Tx):Option (Int) :=
 (Zac a0).bind fun y1=>(if ¬ (y1=true) then some (4) else(if ((a0.2.1.length:Int)=0∨(a0.2.2.1.length:Int)=0) then some (93) else Zd (ZbY a0) (0,0)))
noncomputable def Za4 (p21:Int):Option (Int×Int) :=
 (if p21<0 then some ((0,100)) else some ((p21,0)))
noncomputable def Zaj (a0:Tapi_Tx):(Int×Int)→Option ((Int×Int) ⊕ (Int×Int))
 | (p21,p22)=>(if p22<(a0.2.2.1.length:Int) then(idx (a0.2.2.1) (p22)).bind fun x24=>some (.inl (IntKind.i64.wrap (p21-x24.1),IntKind.i64.wrap (p22+1))) else(Za4 p21).map Sum.inr)
noncomputable def Zca (p14:Int) (a0:Tapi_Tx):Option (Int×Int) :=
 (if 2100000000000000<p14 then some ((0,90)) else Zd (Zaj a0) (p14,0))
noncomputable def Zdw (a1:(List Tapi_Coin)) (a0:Tapi_Tx):(Int×Int)→Option ((Int×Int) ⊕ (Int×Int))
 | (p14,p15)=>(if p15<(a1.length:Int) then(idx (a1) (p15)).bind fun x25=>(if (x25.2.1.1<0∨2100000000000000<x25.2.1.1) then some (.inr ((0,90))) else some (.inl (IntKind.i64.wrap (p14+x25.2.1.1),IntKind.i64.wrap (p15+1)))) else(Zca p14 a0).map Sum.inr)
noncomputable def Za5 (a1:(List Tapi_Coin)) (a0:Tapi_Tx):Option (Int×Int) :=
 Zd (Zdw a1 a0) (0,0)
noncomputable def Zdx (a1:(List Tapi_Coin)) (a0:Tapi_Tx):Int→Option ((Int) ⊕ (Int×Int))
 | p7=>(if p7<(a1.length:Int) then(idx (a1) (p7)).bind fun x26=>(idx (a0.2.1) (p7)).bind fun x27=>(if ¬ ((x26.1.1=x27.1.1∧x26.1.2=x27.1.2)) then some (.inr ((0,101))) else some (.inl (IntKind.i64.wrap (p7+1)))) else(Za5 a1 a0).map Sum.inr)
noncomputable def ZgB (a0:Tapi_Tx) (a1:(List Tapi_Coin)):Option (Int×Int) :=
 (Zc5 a0).bind fun y1=>(if ¬ (y1=0) then some ((0,y1)) else(if ¬ ((a1.length:Int)=(a0.2.1.length:Int)) then some ((0,8)) else Zd (Zdx a1 a0) 0))
def ZqB (x:(List Int)):Prop:=x.length≤maxLen∧∀ a∈x,(0≤a∧a≤255)
end
end Go.Lc
namespace Go.Av
open Go.RowKit
open Go.Av
set_option linter.unusedVariables false
set_option linter.unusedSimpArgs false
theorem ZtR {α:Type}{enc:α→List PV}{g:α→Option (PV×List (List Cell))}{ps:List PV}(h:∀ a,enc a=ps→False):Zab enc g ps=none:=by
 rcases hx:Zab enc g ps with _ | r
 ·rfl
 ·obtain⟨a,ha,_⟩:=ZdY hx
  exact(h a ha.symm).elim
def ZnP (n:Nat) (l:List Int):Arr n:=if h:n≤l.length then⟨l.take n,by simp[h]⟩ else zA n
theorem ZmF {k:IntKind}(l:List Int):(Zf k l).flatten=ints k l:=by
 induction l with
 | nil=>rfl
 | cons x l ih=>simp only[Zf,ints,List.map_cons,List.flatten_cons] at *; rw[ih]; rfl
theorem Za6 {k:IntKind}{l:List Int}{o n:Nat}(h:o+n≤l.length):List.take n (List.drop o (Zf k l).flatten)=arC k (ZnP n (l.drop o)):=by
 have h':n≤(l.drop o).length:=by simp; omega
 unfold ZnP;rw[dif_pos h',ZmF];simp[arC,ints,List.map_take,List.map_drop]
@[simp high] theorem Zxn {k:IntKind}{l:List Int}:(Zf k l).flatten.length=l.length:=by rw[ZmF]; simp[ints]
def Arr.over {n:Nat}(a:Arr n) (l:List Int):Arr n:=⟨l.take n++a.l.drop (min l.length n),by have:=a.hl; simp; omega⟩
theorem ZnQ {k:IntKind}{n:Nat}{a:Arr n}{l:List Int}:Zz (arC k a) 0 (List.take (min l.length n) (Zf k l)).flatten=arC k (a.over l):=by
 have e:(List.take (min l.length n) (Zf k l)).flatten=ints k (l.take n):=by
  rw[← ZiN,ZmF]
  congr 1
  rcases Nat.le_total l.length n with h | h
  ·rw[Nat.min_eq_left h,List.take_of_length_le h,List.take_of_length_le (Nat.le_refl _)]
  ·rw[Nat.min_eq_right h]
 rw[e];unfold Zz arC Arr.over;simp[ints,Nat.min_comm]
@[simp] theorem sg_u8:IntKind.u8.signed=false:=rfl
@[simp] theorem mx_u8:IntKind.u8.max=255:=rfl
@[simp] theorem sg_u16:IntKind.u16.signed=false:=rfl
@[simp] theorem mx_u16:IntKind.u16.max=65535:=rfl
@[simp] theorem sg_u32:IntKind.u32.signed=false:=rfl
@[simp] theorem mx_u32:IntKind.u32.max=4294967295:=rfl
@[simp] theorem sg_u64:IntKind.u64.signed=false:=rfl
@[simp] theorem mx_u64:IntKind.u64.max=18446744073709551615:=rfl
@[simp] theorem sg_i8:IntKind.i8.signed=true:=rfl
@[simp] theorem sg_i16:IntKind.i16.signed=true:=rfl
@[simp] theorem sg_i32:IntKind.i32.signed=true:=rfl
@[simp] theorem sg_i64:IntKind.i64.signed=true:=rfl
theorem YO {α β:Type}{enc:α→List PV}(hi:∀ a b,enc a=enc b→a=b){g:α→Option β}{R:α→β→PV×List (List Cell)}{x:α}{y:β}(h:g x=some y):Zab enc (fun x=>(g x).map (R x)) (enc x)=some (R x y):=by
 rw[Zwr hi,h]; rfl
theorem mkI {P:Program}{tt:TT}{T:Tab}{G:Glob}{α β:Type}{enc:α→List PV}{g:α→Option β}{R:α→β→PV×List (List Cell)}(hm:P.follows .mixedOrders=true) (htt:∀ t i,tt t=some i→Z1 P t=some i) (hT:∀ f F,T f=some F→Zds P G (f % 1000000) F){f:FuncId}{fn:Func}{c:Code}
  (hf:P.funcs[f]? = some fn) (hb:fn.body=some c) (hname:(fn.name == "runtime.NumGoroutine")=false) (w:∀ x y,g x=some y→∃ kp fl n,ZO tt T G kp fl n fn (enc x)=some (R x y)):ZB P G f (Zab enc fun x=>(g x).map (R x)) :=
 ZoI hm htt hT hf hb hname fun ps r ho hF=>by
  obtain⟨x,rfl,h⟩:=ZdY hF;obtain⟨y,hy,rfl⟩:=Option.map_eq_some_iff.1 h;exact w x y hy
@[simp] theorem ba_beq (a b:ByteArray):(a == b)=true↔a=b:=by
 obtain⟨a⟩:=a;obtain⟨b⟩:=b;have:((⟨a⟩:ByteArray) == ⟨b⟩)=(a == b):=rfl;rw[this];simp
@[simp] theorem ZzI {k:IntKind}{l:List Int}:Zf k l.tail=(Zf k l).tail:=by simp[Zf]
theorem ZsP {P:Program}{G:Glob}{f:FuncId}{fn:Func}{c:Code}{F:List PV→Option (PV×List (List Cell))}(hf:P.funcs[f]? = some fn) (hb:fn.body=some c) (hname:(fn.name == "runtime.NumGoroutine")=false) (hF:∀ ps,F ps=none):ZB P G f F :=
 ⟨⟨fn,hf,by rw[hb]; rfl,hname⟩,fun S w ks hs ps vs r outs _ _ _ _ h=>by rw[hF] at h; cases h⟩
theorem ZsQ {α β:Type}{enc:α→List PV}{g:α→Option β}{R:α→β→PV×List (List Cell)}(h:∀ x,g x=none):∀ ps,Zab enc (fun x=>(g x).map (R x)) ps=none:=by
 intro ps;unfold Zab;split
 ·simp only[h]; rfl
 ·rfl
noncomputable def ZoL {α:Type}(g:Nat→Option α):Option α:=by
 classical
 exact if h:∃ n,(g n).isSome=true then g (Classical.choose h) else none
theorem ZtS {α:Type}{g:Nat→Option α}{y:α}(h:ZoL g=some y):∃ n,g n=some y:=by
 unfold ZoL at h;split at h
 ·exact⟨_,h⟩
 ·cases h
theorem Zwx {α:Type}{g:Nat→Option α}{y:α}(h:∀ n x,g n=some x→x=y) (hn:∃ n,g n=some y):ZoL g=some y:=by
 obtain⟨n,hn⟩:=hn;have hx:∃ n,(g n).isSome=true:=⟨n,by rw[hn]; rfl⟩
 unfold ZoL;rw[dif_pos hx];obtain⟨x,hx'⟩:=Option.isSome_iff_exists.1 (Classical.choose_spec hx);rw[hx',h _ _ hx']
theorem Zve {P:Program}{G:Glob}{f:FuncId}{α β:Type}{enc:α→List PV}{g:Nat→α→Option β}{R:α→β→PV×List (List Cell)}(h:∀ n,ZB P G f (Zab enc fun x=>(g n x).map (R x))):ZB P G f (Zab enc fun x=>(ZoL fun n=>g n x).map (R x)):=by
 refine⟨(h 0).1,fun S w ks hs ps vs r outs a1 a2 a3 a4 hF=>?_⟩;unfold Zab at hF;split at hF
 ·rename_i he
  obtain⟨y,hy,hr⟩:=Option.map_eq_some_iff.1 hF;obtain⟨n,hn⟩:=ZtS hy;refine(h n).2 S w ks hs ps vs r outs a1 a2 a3 a4 ?_;unfold Zab;rw[dif_pos he];simp only[hn];simpa using hr
 ·cases hF
theorem pq:(∀ {id:Nat}{Q:AE→ASt→Prop}{s:ASt}{i:Nat},Zkb id Q (.exit i) s=if i=id then Q .normal s else Q (.exit i) s)∧(∀ {id:Nat}{Q:AE→ASt→Prop}{s:ASt},Zkb id Q .normal s=Q .normal s)∧(∀ {id:Nat}{Q:AE→ASt→Prop}{s:ASt},Zkb id Q .ret s=Q .ret s) ∧
  (∀ {K:ASt→Prop}{Q:AE→ASt→Prop}{s:ASt},Zia K Q .normal s=K s)∧(∀ {K:ASt→Prop}{Q:AE→ASt→Prop}{s:ASt}{i:Nat},Zia K Q (.exit i) s=Q (.exit i) s)∧(∀ {K:ASt→Prop}{Q:AE→ASt→Prop}{s:ASt},Zia K Q .ret s=Q .ret s) ∧
  (∀ {σ ρ:Type}{kq:Kp}{H:σ→ASt}{Q:AE→ASt→Prop}{r:ρ}{s:σ},QL kq H Q r (.inl s)=Zia (fun st=>ZbH kq st=H s) fun _ _=>False)∧(∀ {σ ρ:Type}{kq:Kp}{H:σ→ASt}{Q:AE→ASt→Prop}{r r':ρ},QL kq H Q r (.inr r')=Zia (fun _=>False) fun e st=>r'=r→Q e st) ∧
  (∀ {a b:Prop},(if True then a else b)=a)∧(∀ {a b:Prop},(if False then a else b)=b) :=
 ⟨rfl,rfl,rfl,rfl,rfl,rfl,rfl,rfl,by simp,by simp⟩
theorem nf:(∀ {k:IntKind},Zf k []=[])∧(∀ {k:IntKind}{x:Int}{l:List Int},Zf k (x :: l)=[.v (.int k x)] :: Zf k l)∧(∀ {k:IntKind}{l m:List Int},Zf k (l++m)=Zf k l++Zf k m)∧(∀ {k:IntKind}{l:List Int}{n:Nat},Zf k (l.take n)=(Zf k l).take n) ∧
  (∀ {k:IntKind}{l:List Int}{n:Nat},Zf k (l.drop n)=(Zf k l).drop n)∧(∀ {k:IntKind}{l:List Int}{n:Nat}{x:Int},Zf k (l.set n x)=(Zf k l).set n [.v (.int k x)])∧(∀ {k:IntKind}{n:Nat}{x:Int},Zf k (List.replicate n x)=List.replicate n [.v (.int k x)]) ∧
  (∀ {α β:Type}{f:α→β},List.map f []=[])∧(∀ {α β:Type}{f:α→β}{a:α}{l:List α},List.map f (a :: l)=f a :: List.map f l)∧(∀ {α β:Type}{f:α→β}{l m:List α},List.map f (l++m)=List.map f l++List.map f m)∧(∀ {α β:Type}{f:α→β}{l:List α}{n:Nat},List.map f (l.take n)=(List.map f l).take n) ∧
  (∀ {α β:Type}{f:α→β}{l:List α}{n:Nat},List.map f (l.drop n)=(List.map f l).drop n)∧(∀ {α β:Type}{f:α→β}{l:List α}{n:Nat}{x:α},List.map f (l.set n x)=(List.map f l).set n (f x))∧(∀ {α β:Type}{f:α→β}{n:Nat}{x:α},List.map f (List.replicate n x)=List.replicate n (f x)) ∧
  (∀ {α:Type}{l:List α},[]++l=l)∧(∀ {α:Type}{x:α}{l m:List α},x :: l++m=x :: (l++m))∧(∀ {α:Type}{l m n:List α},l++m++n=l++(m++n)) :=
 ⟨ZmB,ZlW,Yz,ZiN,ZnO,Zt,Zpk,List.map_nil,List.map_cons,List.map_append,List.map_take,List.map_drop,List.map_set,List.map_replicate,List.nil_append _,List.cons_append,List.append_assoc _ _ _⟩
theorem bs {α β:Type}{o:Option α}{f:α→Option β}{y:β}(h:o.bind f=some y):∃ x,o=some x∧f x=some y:=Option.bind_eq_some_iff.1 h
theorem ms {α β:Type}{o:Option α}{f:α→β}{y:β}(h:o.map f=some y):∃ x,o=some x∧f x=y:=Option.map_eq_some_iff.1 h
theorem ZsR {e n:Nat}{L:List (List Cell)}(h:∀ l∈L,l.length=e) (hn:L.length=n):X4 e n L.flatten=L:=by
 subst hn;exact Zjz h
theorem ZF {k:IntKind}{n:Nat}{l:List Int}(h:l.length=n):X4 1 n (Zf k l).flatten=Zf k l :=
 ZsR (fun x hx=>intsR_all x hx) (by simpa[Zf] using h)
theorem ZqC {P:Program}{G:Glob}{f:FuncId}{fn:Func}{k k':IntKind}{g:Int→Int}{ok:Int→Prop}(hfn:P.funcs[f]? = some fn) (hb:fn.body.isNone=false) (hnm:(fn.name == "runtime.NumGoroutine")=false)
  (F:List PV→Option (PV×List (List Cell))) (hF:∀ ps r,F ps=some r→∃ x,ok x∧ps=[.one (.v (.int k x))]∧r=(.one (.v (.int k' (g x))),[]))
  (h:∀ x w,ok x→Calls P f #[.int k x] w fun e w'=>e = .returned (.int k' (g x))∧w'=w):ZB P G f F:=by
 refine⟨⟨fn,hfn,hb,hnm⟩,?_⟩;intro S w ks hh ps vs r outs hg hs ha hk hFr;obtain⟨x,hx,rfl,hr⟩:=hF ps _ hFr;injection hr with hr1 hr2;subst hr1 hr2;cases ha with
 | one ha1 ha =>
  cases ha
  cases ha1 with
  | pure ha1 =>
   cases ha1 with
   | v _ h1 h2 =>
    refine(h x w hx).mono ?_;rintro ee w' ⟨rfl,rfl⟩
    exact⟨_,S,_,_,rfl,.base (.one (.pure (.v _ (by rfl) (by simp)))),.skip (by simp) (by simp) .nil,by simp[Zr],Xz.refl _ _ _,fun _ _ h=>h,fun _ _ h=>.inl h,hs⟩
theorem Zpl {P:Program}{G:Glob}{f:FuncId}{k:IntKind}{p q:Nat→Nat→Nat→Nat}{ok:Nat→Nat→Nat→Prop}{F:List PV→Option (PV×List (List Cell))}
  (hF:∀ ps r,F ps=some r→∃ x y b:Nat,ok x y b∧ps=[.one (.v (.int k x)),.one (.v (.int k y)),.one (.v (.int k b))]∧r=(.tup [.one (.v (.int k (p x y b))),.one (.v (.int k (q x y b)))],[]))
  (h:∀ (x y b:Nat) (w:World),ok x y b→(callFunc f #[.int k x,.int k y,.int k b]).run P w = .ok (.value (.tuple #[.int k (p x y b:Nat),.int k (q x y b:Nat)])) w):ZpZ P G f F:=by
 intro S w ks hh ps vs r outs hg hs ha hk hFr;obtain⟨x,y,b,hx,rfl,hr⟩:=hF ps _ hFr;injection hr with hr1 hr2;subst hr1 hr2;cases ha with
 | one a1 ha=>cases ha with
  | one a2 ha=>cases ha with
   | one a3 ha =>
    cases ha
    cases a1 with
    | pure a1=>cases a2 with
     | pure a2=>cases a3 with
      | pure a3 =>
       cases a1 with
       | v _ _ _=>cases a2 with
        | v _ _ _=>cases a3 with
         | v _ _ _ =>
          exact⟨_,S,_,_,h x y b w hx,.tup (.cons (.one (.pure (.v _ (by rfl) (by simp)))) (.cons (.one (.pure (.v _ (by rfl) (by simp)))) .nil)),.skip (by simp) (by simp) (.skip (by simp) (by simp) (.skip (by simp) (by simp) .nil)),by simp[Zr],Xz.refl _ _ _,fun _ _ h=>h,fun _ _ h=>.inl h,hs⟩
@[simp] theorem ZyS {L:List (List Cell)}:Yb L.flatten=ZA L:=List.all_flatten
@[simp] theorem Zyv {L:List (List Cell)}:hasSlL L.flatten=L.any hasSlL:=List.any_flatten
@[simp] theorem Zyw {k:IntKind}{l:List Int}:(Zf k l).any hasSlL=false:=by simp[Zf,hasSlL,Cell.hasSl,List.any_map]
def clr {α:Type}(l:List α) (i n:Nat) (z:α):List α:=l.take i++(List.replicate (min n (l.length-i)) z++l.drop (i+n))
@[simp] theorem ZyT {α:Type}{l:List α}{i n:Nat}{z:α}:(clr l i n z).length=l.length:=by simp[clr]; omega
@[simp] theorem Zvf {α:Type}{l:List α}{i n:Nat}{z:α}:(clr l i n z).take i=l.take i:=by
 unfold clr;rcases Nat.le_total i l.length with h | h
 ·rw[List.take_append_of_le_length (by simp[h]),List.take_take,Nat.min_self]
 ·rw[List.take_of_length_le h,show min n (l.length-i)=0 by omega,List.drop_of_length_le (by omega)]
  simp[List.take_of_length_le h]
@[simp] theorem Zxo {k:IntKind}{l:List Int}{i n:Nat}{z:Int}:List.take i (Zf k (clr l i n z))=List.take i (Zf k l):=by
 rw[← ZiN,Zvf,ZiN]
end Go.Av
namespace Go.Lc
open Go.RowKit
open Go.Av
set_option linter.unusedVariables false
set_option linter.unusedSimpArgs false
section
set_option maxRecDepth 100000
abbrev Tapi_Entry:=Tapi_Tx×Int
def shaInitial:Arr 8:=⟨[1779033703,3144134277,1013904242,2773480762,1359893119,2600822924,528734635,1541459225],rfl⟩
def shaK:Arr 64:=⟨[1116352408,1899447441,3049323471,3921009573,961987163,1508970993,2453635748,2870763221,3624381080,310598401,607225278,1426881987,1925078388,2162078206,2614888103,3248222580,3835390401,4022224774,264347078,604807628,770255983,1249150122,1555081692,1996064986,2554220882,2821834349,2952996808,3210313671,3336571891,3584528711,113926993,338241895,666307205,773529912,1294757372,1396182291,1695183700,1986661051,2177026350,2456956037,2730485921,2820302411,3259730800,3345764771,3516065817,3600352804,4094571909,275423344,430227734,506948616,659060556,883997877,958139571,1322822218,1537002063,1747873779,1955562222,2024104815,2227730452,2361852424,2428436474,2756734187,3204031479,3329325298],rfl⟩
noncomputable def ZgC (a0:Tapi_Tx) (a1:Bool):Option ((List Int)×Int) :=
 (ZhF a0).bind fun y1=>(if ¬ (y1=true) then some ((([]:(List Int)),4)) else(Ze0 a0 a1).bind fun y2=>some ((y2,0)))
noncomputable def Zlb (p8:(List Int)):Option (List Int) :=
 some (p8)
noncomputable def Zha (a0:(List (List Int))):(Int×(List Int))→Option ((Int×(List Int)) ⊕ ((List Int)))
 | (p7,p8)=>(if p7<(a0.length:Int) then(idx (a0) (p7)).bind fun x11=>(chk (p8.length+x11.length≤140737488355328)).bind fun _=>some (.inl (IntKind.i64.wrap (p7+1),p8++x11)) else(Zlb p8).map Sum.inr)
noncomputable def ZiO (a0:(List (List Int))):Option ((List Int)) :=
 Zd (Zha a0) (0,[])
noncomputable def Zlc (p10:(List Int)):Option (List Int) :=
 some (p10)
noncomputable def Zhb (a0:Int):(Int×(List Int))→Option ((Int×(List Int)) ⊕ ((List Int)))
 | (p9,p10)=>(if p9<8 then(chk (¬ (IntKind.i64.wrap (56-(IntKind.i64.wrap (8 * p9)))<0))).bind fun _=>(chk (p10.length+1≤140737488355328)).bind fun _=>some (.inl (IntKind.i64.wrap (p9+1),p10++[IntKind.u8.wrap ((IntKind.u64.wrap (8 * a0)).fdiv (2 ^ (min (IntKind.i64.wrap (56-(IntKind.i64.wrap (8 * p9)))).toNat 64)))])) else(Zlc p10).map Sum.inr)
noncomputable def ZiP (a0:Int):Option ((List Int)) :=
 (chk (0≤IntKind.u64.wrap (1+((IntKind.u64.wrap (64-((IntKind.u64.wrap (a0+9)).tmod 64))).tmod 64))∧IntKind.u64.wrap (1+((IntKind.u64.wrap (64-((IntKind.u64.wrap (a0+9)).tmod 64))).tmod 64))≤IntKind.u64.wrap (9+((IntKind.u64.wrap (64-((IntKind.u64.wrap (a0+9)).tmod 64))).tmod 64))∧IntKind.u64.wrap (9+((IntKind.u64.wrap (64-((IntKind.u64.wrap (a0+9)).tmod 64))).tmod 64))≤140737488355328)).bind fun _=>(chk (0<(List.replicate ((IntKind.u64.wrap (1+((IntKind.u64.wrap (64-((IntKind.u64.wrap (a0+9)).tmod 64))).tmod 64))).toNat) 0).length)).bind fun _=>Zd (Zhb a0) (0,(List.replicate ((IntKind.u64.wrap (1+((IntKind.u64.wrap (64-((IntKind.u64.wrap (a0+9)).tmod 64))).tmod 64))).toNat) 0).set 0 128)
noncomputable def YP (a0:Int) (a1:Int):Option (Int) :=
 (chk (¬ (bits .and .u64 (IntKind.u64.wrap (a1)) 31<0))).bind fun _=>(chk (¬ (IntKind.u64.wrap (32-(bits .and .u64 (IntKind.u64.wrap (a1)) 31))<0))).bind fun _=>some (bits .or .u32 (IntKind.u32.wrap (a0 * (2 ^ (min (bits .and .u64 (IntKind.u64.wrap (a1)) 31).toNat 32)))) ((a0).fdiv (2 ^ (min (IntKind.u64.wrap (32-(bits .and .u64 (IntKind.u64.wrap (a1)) 31))).toNat 32))))
noncomputable def XH (a0:Int) (a1:Int):Option (Int) :=
 (YP a0 (IntKind.i64.wrap (-a1))).bind fun y1=>some (y1)
noncomputable def Zc6 (p52:(Arr 64)):Option (Arr 64) :=
 some (p52)
noncomputable def Lsha_schedule_s2:(Int×(Arr 64))→Option ((Int×(Arr 64)) ⊕ ((Arr 64)))
 | (p51,p52)=>(if p51<64 then(inA (64) (IntKind.i64.wrap (p51-15))).bind fun j62=>(XH (p52.at j62) 7).bind fun y63=>(XH (p52.at j62) 18).bind fun y64=>(inA (64) (IntKind.i64.wrap (p51-2))).bind fun j65=>(XH (p52.at j65) 17).bind fun y66=>(XH (p52.at j65) 19).bind fun y67=>(inA (64) (IntKind.i64.wrap (p51-16))).bind fun j68=>(inA (64) (IntKind.i64.wrap (p51-7))).bind fun j69=>(inA (64) (p51)).bind fun j70=>some (.inl (IntKind.i64.wrap (p51+1),p52.put j70 (IntKind.u32.wrap ((IntKind.u32.wrap ((IntKind.u32.wrap ((p52.at j68)+(bits .xor .u32 (bits .xor .u32 y63 y64) ((p52.at j62).fdiv 8))))+(p52.at j69)))+(bits .xor .u32 (bits .xor .u32 y66 y67) ((p52.at j65).fdiv 1024)))))) else(Zc6 p52).map Sum.inr)
noncomputable def Zar (p21:(Arr 64)):Option (Arr 64) :=
 Zd (Lsha_schedule_s2) (16,p21)
noncomputable def Zbk (p20:Int) (p78:(Arr 64)):Option ((Int×(Arr 64)) ⊕ ((Arr 64))) :=
 some (.inl (IntKind.i64.wrap (p20+1),p78))
noncomputable def Zas (p20:Int) (a0:(Arr 64)):(Int×(Arr 64))→Option ((Int×(Arr 64)) ⊕ ((Int×(Arr 64)) ⊕ ((Arr 64))))
 | (p77,p78)=>(if p77<4 then(inA (64) (p20)).bind fun j81=>(inA (64) (IntKind.i64.wrap ((IntKind.i64.wrap (4 * p20))+p77))).bind fun j82=>some (.inl (IntKind.i64.wrap (p77+1),p78.put j81 (bits .or .u32 (IntKind.u32.wrap ((p78.at j81) * 256)) (IntKind.u32.wrap (a0.at j82))))) else(Zbk p20 p78).map Sum.inr)
noncomputable def Zc7 (a0:(Arr 64)):(Int×(Arr 64))→Option ((Int×(Arr 64)) ⊕ ((Arr 64)))
 | (p20,p21)=>(if p20<16 then Zd (Zas p20 a0) (0,p21) else(Zar p21).map Sum.inr)
noncomputable def Zdy (a0:(Arr 64)):Option ((Arr 64)) :=
 Zd (Zc7 a0) (0,zA 64)
noncomputable def ZhG (a0:(Arr 8)) (p24:Int) (p25:Int) (p26:Int) (p27:Int) (p28:Int) (p29:Int) (p30:Int) (p31:Int):Option (Arr 8) :=
 some (((((((((zA 8).put 0 (IntKind.u32.wrap ((a0.at 0)+p24))).put 1 (IntKind.u32.wrap ((a0.at 1)+p25))).put 2 (IntKind.u32.wrap ((a0.at 2)+p26))).put 3 (IntKind.u32.wrap ((a0.at 3)+p27))).put 4 (IntKind.u32.wrap ((a0.at 4)+p28))).put 5 (IntKind.u32.wrap ((a0.at 5)+p29))).put 6 (IntKind.u32.wrap ((a0.at 6)+p30))).put 7 (IntKind.u32.wrap ((a0.at 7)+p31)))
noncomputable def Zc8 (y1:((Arr 64))) (a0:(Arr 8)):(Int×Int×Int×Int×Int×Int×Int×Int×Int)→Option ((Int×Int×Int×Int×Int×Int×Int×Int×Int) ⊕ ((Arr 8)))
 | (p24,p25,p26,p27,p28,p29,p30,p31,p32)=>(if p32<64 then(XH p28 6).bind fun y40=>(XH p28 11).bind fun y41=>(XH p28 25).bind fun y42=>(inA (64) (p32)).bind fun j43=>(XH p24 2).bind fun y44=>(XH p24 13).bind fun y45=>(XH p24 22).bind fun y46=>some (.inl (IntKind.u32.wrap ((IntKind.u32.wrap ((IntKind.u32.wrap ((IntKind.u32.wrap ((IntKind.u32.wrap (p31+(bits .xor .u32 (bits .xor .u32 y40 y41) y42)))+(bits .xor .u32 (bits .and .u32 p28 p29) (bits .and .u32 (bits .xor .u32 4294967295 p28) p30))))+(shaK.at j43)))+(y1.at j43)))+(IntKind.u32.wrap ((bits .xor .u32 (bits .xor .u32 y44 y45) y46)+(bits .xor .u32 (bits .xor .u32 (bits .and .u32 p24 p25) (bits .and .u32 p24 p26)) (bits .and .u32 p25 p26))))),p24,p25,p26,IntKind.u32.wrap (p27+(IntKind.u32.wrap ((IntKind.u32.wrap ((IntKind.u32.wrap ((IntKind.u32.wrap (p31+(bits .xor .u32 (bits .xor .u32 y40 y41) y42)))+(bits .xor .u32 (bits .and .u32 p28 p29) (bits .and .u32 (bits .xor .u32 4294967295 p28) p30))))+(shaK.at j43)))+(y1.at j43)))),p28,p29,p30,IntKind.i64.wrap (p32+1))) else(ZhG a0 p24 p25 p26 p27 p28 p29 p30 p31).map Sum.inr)
noncomputable def Zdz (a0:(Arr 8)) (a1:(Arr 64)):Option ((Arr 8)) :=
 (Zdy a1).bind fun y1=>Zd (Zc8 y1 a0) (a0.at 0,a0.at 1,a0.at 2,a0.at 3,a0.at 4,a0.at 5,a0.at 6,a0.at 7,0)
noncomputable def Zjk (p24:(Arr 32)):Option (Arr 32) :=
 some (p24)
noncomputable def Zhc (p12:(Arr 8)):(Int×(Arr 32))→Option ((Int×(Arr 32)) ⊕ ((Arr 32)))
 | (p23,p24)=>(if p23<32 then(inA (8) (IntKind.i64.wrap ((p23).tdiv 4))).bind fun j28=>(chk (¬ (IntKind.i64.wrap (24-(IntKind.i64.wrap (((p23).tmod 4) * 8)))<0))).bind fun _=>(inA (32) (p23)).bind fun j30=>some (.inl (IntKind.i64.wrap (p23+1),p24.put j30 (IntKind.u8.wrap ((p12.at j28).fdiv (2 ^ (min (IntKind.i64.wrap (24-(IntKind.i64.wrap (((p23).tmod 4) * 8)))).toNat 32)))))) else(Zjk p24).map Sum.inr)
noncomputable def ZfJ (p12:(Arr 8)):Option (Arr 32) :=
 Zd (Zhc p12) (0,zA 32)
noncomputable def Zhd (y2:((List Int))):(Int×(Arr 8))→Option ((Int×(Arr 8)) ⊕ ((Arr 32)))
 | (p11,p12)=>(if p11<IntKind.i64.wrap (((y2.length:Int)).tdiv 64) then(chk (0≤IntKind.i64.wrap (64 * p11)∧IntKind.i64.wrap (64 * p11)≤(y2.length:Int))).bind fun _=>(chk (64≤(y2.length-(IntKind.i64.wrap (64 * p11)).toNat))).bind fun _=>(Zdz p12 (ZnP 64 ((y2).drop ((IntKind.i64.wrap (64 * p11)).toNat)))).bind fun y33=>some (.inl (IntKind.i64.wrap (p11+1),y33)) else(ZfJ p12).map Sum.inr)
noncomputable def ZhH (a0:(List Int)):Option ((Arr 32)) :=
 (ZiP (IntKind.u64.wrap ((a0.length:Int)))).bind fun y1=>(ZiO [a0,y1]).bind fun y2=>Zd (Zhd y2) (0,shaInitial)
noncomputable def ZfK (a0:(List Int)):Option ((Arr 32)) :=
 (ZhH a0).bind fun y1=>(ZhH y1.l).bind fun y2=>some (y2)
end
section
set_option maxRecDepth 100000
noncomputable def Zhs (p13:(List Int)):Option (List Int) :=
 some (p13)
noncomputable def ZdA (a0:Int):(Int×(List Int))→Option ((Int×(List Int)) ⊕ ((List Int)))
 | (p12,p13)=>(if 0≤p12 then(chk (¬ (IntKind.i64.wrap (8 * p12)<0))).bind fun _=>(chk (p13.length+1≤140737488355328)).bind fun _=>some (.inl (IntKind.i64.wrap (p12-1),p13++[IntKind.u8.wrap ((IntKind.u64.wrap (8 * a0)).fdiv (2 ^ (min (IntKind.i64.wrap (8 * p12)).toNat 64)))])) else(Zhs p13).map Sum.inr)
noncomputable def Zfm (a0:Int) (p4:(List Int)):Option (List Int) :=
 Zd (ZdA a0) (7,p4)
noncomputable def Zfn (a0:Int):(List Int)→Option (((List Int)) ⊕ ((List Int)))
 | p4=>(if ¬ ((IntKind.u64.wrap ((IntKind.u64.wrap (a0+(IntKind.u64.wrap ((p4.length:Int)))))+8)).tmod 64=0) then(chk (p4.length+1≤140737488355328)).bind fun _=>some (.inl (p4++[0])) else(Zfm a0 p4).map Sum.inr)
noncomputable def ZgD (a0:Int):Option ((List Int)) :=
 Zd (Zfn a0) [128]
noncomputable def Lref03_Initial:Option ((Arr 8)) :=
 some (((((((((zA 8).put 0 1779033703).put 1 3144134277).put 2 1013904242).put 3 2773480762).put 4 1359893119).put 5 2600822924).put 6 528734635).put 7 1541459225)
noncomputable def YT (a0:Int) (a1:Int):Option (Int) :=
 (YP a0 (IntKind.i64.wrap (-a1))).bind fun y1=>some (y1)
noncomputable def ZdQ (p39:(Arr 64)):Option (Arr 64) :=
 some (p39)
noncomputable def Lref03_schedule_s2:(Int×(Arr 64))→Option ((Int×(Arr 64)) ⊕ ((Arr 64)))
 | (p38,p39)=>(if p38<64 then(inA (64) (IntKind.i64.wrap (p38-15))).bind fun j49=>(YT (p39.at j49) 7).bind fun y50=>(YT (p39.at j49) 18).bind fun y51=>(inA (64) (IntKind.i64.wrap (p38-2))).bind fun j52=>(YT (p39.at j52) 17).bind fun y53=>(YT (p39.at j52) 19).bind fun y54=>(inA (64) (IntKind.i64.wrap (p38-16))).bind fun j55=>(inA (64) (IntKind.i64.wrap (p38-7))).bind fun j56=>(inA (64) (p38)).bind fun j57=>some (.inl (IntKind.i64.wrap (p38+1),p39.put j57 (IntKind.u32.wrap ((IntKind.u32.wrap ((IntKind.u32.wrap ((p39.at j55)+(bits .xor .u32 (bits .xor .u32 y50 y51) ((p39.at j49).fdiv 8))))+(p39.at j56)))+(bits .xor .u32 (bits .xor .u32 y53 y54) ((p39.at j52).fdiv 1024)))))) else(ZdQ p39).map Sum.inr)
noncomputable def ZaD (p13:(Arr 64)):Option (Arr 64) :=
 Zd (Lref03_schedule_s2) (16,p13)
noncomputable def ZbL (a0:(Arr 64)):(Int×(Arr 64))→Option ((Int×(Arr 64)) ⊕ ((Arr 64)))
 | (p12,p13)=>(if p12<16 then(inA (64) (IntKind.i64.wrap (4 * p12))).bind fun j58=>(inA (64) (IntKind.i64.wrap ((IntKind.i64.wrap (4 * p12))+1))).bind fun j59=>(inA (64) (IntKind.i64.wrap ((IntKind.i64.wrap (4 * p12))+2))).bind fun j60=>(inA (64) (IntKind.i64.wrap ((IntKind.i64.wrap (4 * p12))+3))).bind fun j61=>(inA (64) (p12)).bind fun j62=>some (.inl (IntKind.i64.wrap (p12+1),p13.put j62 (bits .or .u32 (bits .or .u32 (bits .or .u32 (IntKind.u32.wrap ((IntKind.u32.wrap (a0.at j58)) * 16777216)) (IntKind.u32.wrap ((IntKind.u32.wrap (a0.at j59)) * 65536))) (IntKind.u32.wrap ((IntKind.u32.wrap (a0.at j60)) * 256))) (IntKind.u32.wrap (a0.at j61))))) else(ZaD p13).map Sum.inr)
noncomputable def ZbZ (a0:(Arr 64)):Option ((Arr 64)) :=
 Zd (ZbL a0) (0,zA 64)
noncomputable def Lref03_constants:Option ((Arr 64)) :=
 some (((((((((((((((((((((((((((((((((((((((((((((((((((((((((((((((((zA 64).put 0 1116352408).put 1 1899447441).put 2 3049323471).put 3 3921009573).put 4 961987163).put 5 1508970993).put 6 2453635748).put 7 2870763221).put 8 3624381080).put 9 310598401).put 10 607225278).put 11 1426881987).put 12 1925078388).put 13 2162078206).put 14 2614888103).put 15 3248222580).put 16 3835390401).put 17 4022224774).put 18 264347078).put 19 604807628).put 20 770255983).put 21 1249150122).put 22 1555081692).put 23 1996064986).put 24 2554220882).put 25 2821834349).put 26 2952996808).put 27 3210313671).put 28 3336571891).put 29 3584528711).put 30 113926993).put 31 338241895).put 32 666307205).put 33 773529912).put 34 1294757372).put 35 1396182291).put 36 1695183700).put 37 1986661051).put 38 2177026350).put 39 2456956037).put 40 2730485921).put 41 2820302411).put 42 3259730800).put 43 3345764771).put 44 3516065817).put 45 3600352804).put 46 4094571909).put 47 275423344).put 48 430227734).put 49 506948616).put 50 659060556).put 51 883997877).put 52 958139571).put 53 1322822218).put 54 1537002063).put 55 1747873779).put 56 1955562222).put 57 2024104815).put 58 2227730452).put 59 2361852424).put 60 2428436474).put 61 2756734187).put 62 3204031479).put 63 3329325298)
noncomputable def Zjv (a0:(Arr 8)) (p25:Int) (p26:Int) (p27:Int) (p28:Int) (p29:Int) (p30:Int) (p31:Int) (p32:Int):Option (Arr 8) :=
 some (((((((((zA 8).put 0 (IntKind.u32.wrap ((a0.at 0)+p25))).put 1 (IntKind.u32.wrap ((a0.at 1)+p26))).put 2 (IntKind.u32.wrap ((a0.at 2)+p27))).put 3 (IntKind.u32.wrap ((a0.at 3)+p28))).put 4 (IntKind.u32.wrap ((a0.at 4)+p29))).put 5 (IntKind.u32.wrap ((a0.at 5)+p30))).put 6 (IntKind.u32.wrap ((a0.at 6)+p31))).put 7 (IntKind.u32.wrap ((a0.at 7)+p32)))
noncomputable def ZbM (y2:((Arr 64))) (y1:((Arr 64))) (a0:(Arr 8)):(Int×Int×Int×Int×Int×Int×Int×Int×Int)→Option ((Int×Int×Int×Int×Int×Int×Int×Int×Int) ⊕ ((Arr 8)))
 | (p25,p26,p27,p28,p29,p30,p31,p32,p33)=>(if p33<64 then(YT p29 6).bind fun y41=>(YT p29 11).bind fun y42=>(YT p29 25).bind fun y43=>(inA (64) (p33)).bind fun j44=>(YT p25 2).bind fun y45=>(YT p25 13).bind fun y46=>(YT p25 22).bind fun y47=>some (.inl (IntKind.u32.wrap ((IntKind.u32.wrap ((IntKind.u32.wrap ((IntKind.u32.wrap ((IntKind.u32.wrap (p32+(bits .xor .u32 (bits .xor .u32 y41 y42) y43)))+(bits .xor .u32 (bits .and .u32 p29 p30) (bits .and .u32 (bits .xor .u32 4294967295 p29) p31))))+(y2.at j44)))+(y1.at j44)))+(IntKind.u32.wrap ((bits .xor .u32 (bits .xor .u32 y45 y46) y47)+(bits .xor .u32 (bits .xor .u32 (bits .and .u32 p25 p26) (bits .and .u32 p25 p27)) (bits .and .u32 p26 p27))))),p25,p26,p27,IntKind.u32.wrap (p28+(IntKind.u32.wrap ((IntKind.u32.wrap ((IntKind.u32.wrap ((IntKind.u32.wrap (p32+(bits .xor .u32 (bits .xor .u32 y41 y42) y43)))+(bits .xor .u32 (bits .and .u32 p29 p30) (bits .and .u32 (bits .xor .u32 4294967295 p29) p31))))+(y2.at j44)))+(y1.at j44)))),p29,p30,p31,IntKind.i64.wrap (p33+1))) else(Zjv a0 p25 p26 p27 p28 p29 p30 p31 p32).map Sum.inr)
noncomputable def Xv (a0:(Arr 8)) (a1:(Arr 64)):Option ((Arr 8)) :=
 (ZbZ a1).bind fun y1=>(Lref03_constants).bind fun y2=>Zd (ZbM y2 y1 a0) (a0.at 0,a0.at 1,a0.at 2,a0.at 3,a0.at 4,a0.at 5,a0.at 6,a0.at 7,0)
noncomputable def Zmj (p27:(Arr 32)):Option (Arr 32) :=
 some (p27)
noncomputable def Zfo (p12:(Arr 8)):(Int×(Arr 32))→Option ((Int×(Arr 32)) ⊕ ((Arr 32)))
 | (p26,p27)=>(if p26<8 then(inA (8) (p26)).bind fun j33=>(inA (32) (IntKind.i64.wrap (4 * p26))).bind fun j34=>(inA (32) (IntKind.i64.wrap ((IntKind.i64.wrap (4 * p26))+1))).bind fun j35=>(inA (32) (IntKind.i64.wrap ((IntKind.i64.wrap (4 * p26))+2))).bind fun j36=>(inA (32) (IntKind.i64.wrap ((IntKind.i64.wrap (4 * p26))+3))).bind fun j37=>some (.inl (IntKind.i64.wrap (p26+1),(((p27.put j34 (IntKind.u8.wrap ((p12.at j33).fdiv 16777216))).put j35 (IntKind.u8.wrap ((p12.at j33).fdiv 65536))).put j36 (IntKind.u8.wrap ((p12.at j33).fdiv 256))).put j37 (IntKind.u8.wrap (p12.at j33)))) else(Zmj p27).map Sum.inr)
noncomputable def Zht (p12:(Arr 8)):Option (Arr 32) :=
 Zd (Zfo p12) (0,zA 32)
noncomputable def Zfp (a0:(List Int)) (y2:((List Int))):(Int×(Arr 8))→Option ((Int×(Arr 8)) ⊕ ((Arr 32)))
 | (p11,p12)=>(if IntKind.i64.wrap (p11+64)≤(a0.length+y2.length:Int) then(chk (0≤p11∧p11≤((a0++y2).length:Int))).bind fun _=>(Xv p12 ((zA 64).over ((a0++y2).drop (p11).toNat))).bind fun y39=>some (.inl (IntKind.i64.wrap (p11+64),y39)) else(Zht p12).map Sum.inr)
noncomputable def YI (a0:(List Int)):Option ((Arr 32)) :=
 (chk (a0.length≤140737488355328)).bind fun _=>(ZgD (IntKind.u64.wrap ((a0.length:Int)))).bind fun y2=>(chk (a0.length+y2.length≤140737488355328)).bind fun _=>(Lref03_Initial).bind fun y4=>Zd (Zfp a0 y2) (0,y4)
noncomputable def XQ (a0:(List Int)):Option ((Arr 32)) :=
 (YI a0).bind fun y1=>(YI y1.l).bind fun y2=>some (y2)
noncomputable def ZeN (a0:Tapi_Tx):Option ((Arr 32)) :=
 (Zac a0).bind fun y1=>(if ¬ (y1=true) then some (zA 32) else(Zai a0 false).bind fun y2=>(XQ y2).bind fun y3=>some (y3))
end
end Go.Lc
