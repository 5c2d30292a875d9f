import Derived.Test.YtbppknpnmjhjpaaGreatDoorAvP3
import Derived.WalkSpells
import Derived.MapKept
import Derived.Laws.StructEq
import Derived.Lib.BitFns
namespace Go.Av
open Go.RowKit
open Go.Av
set_option linter.unusedVariables false
set_option linter.unusedSimpArgs false
section
variable {tt:TT}{T:Tab}{G:Glob}{kp:Keep}{st st0 st1:ASt}{a b c d:Code}{Q Q':AE→ASt→Prop}
def ZI (tt:TT) (T:Tab) (G:Glob) (kp:Keep) (c:Code) (st:ASt) (Q:AE→ASt→Prop):Prop:=∃ n0 e s,(∀ n,n0≤n→Yt tt T G kp n c st=some (e,s))∧Q e s
theorem Zlc (h:ZI tt T G kp a st (ZiT (fun s=>ZI tt T G kp b s Q) Q)):ZI tt T G kp (.seq a b) st Q:=by
 obtain⟨n0,e,s,h1,h2⟩:=h;cases e with
 | normal =>
  obtain⟨n1,e',s',h3,h4⟩:=h2;exact⟨max n0 n1,e',s',fun n hn=>by simp[Yt,h1 n (by omega),h3 n (by omega)],h4⟩
 | exit id=>exact⟨n0,_,_,fun n hn=>by simp[Yt,h1 n hn],h2⟩
 | ret=>exact⟨n0,_,_,fun n hn=>by simp[Yt,h1 n hn],h2⟩
theorem Xb {id:Nat}{ops:Array Oper}(hc:c = .region id ops false) (h:Zdd tt T G ops.toList ops.toList st=some st1) (hq:Q .normal st1) (hj:(kp (id+1000000)).ks.isEmpty=true:=by rfl):ZI tt T G kp c st Q:=⟨0,_,_,fun n _=>by subst hc; simp[Yt,ZbL,hj,h],hq⟩
theorem Zpz {id:Nat}{ops:Array Oper}{fs:List Foot}(hc:c = .region id ops true) (h:ZdF tt T G ops.toList ops.toList st=some (st1,fs)) (hd:ZhT ops.toList fs=true) (hq:Q .normal st1) (hj:(kp (id+1000000)).ks.isEmpty=true:=by rfl):ZI tt T G kp c st Q:=⟨0,_,_,fun n _=>by subst hc; simp[Yt,ZbL,hj,h,hd],hq⟩
theorem Zd {id:Nat}{ops:Array Oper}(hc:c = .region id ops false) (h:Zdd tt T G ops.toList ops.toList st=some st1) (hq:ZI tt T G kp b st1 Q) (hj:(kp (id+1000000)).ks.isEmpty=true:=by rfl):ZI tt T G kp (.seq c b) st Q:=Zlc (Xb hc h hq hj)
theorem Z6 {id:Nat}{ops:Array Oper}{fs:List Foot}(hc:c = .region id ops true) (h:ZdF tt T G ops.toList ops.toList st=some (st1,fs)) (hd:ZhT ops.toList fs=true) (hq:ZI tt T G kp b st1 Q) (hj:(kp (id+1000000)).ks.isEmpty=true:=by rfl):ZI tt T G kp (.seq c b) st Q:=Zlc (Zpz hc h hd hq hj)
theorem Ze7 (h:Q .normal st):ZI tt T G kp .skip st Q:=⟨0,_,_,fun _ _=>rfl,h⟩
theorem Zai (h:Q .ret st):ZI tt T G kp .ret st Q:=⟨0,_,_,fun _ _=>rfl,h⟩
theorem ZnV {id:Nat}(h:Q (.exit id) st):ZI tt T G kp (.exit id) st Q:=⟨0,_,_,fun _ _=>rfl,h⟩
theorem ZD (h:ZI tt T G kp b st Q):ZI tt T G kp (.seq .skip b) st Q:=Zlc (Ze7 h)
theorem Zac (h:Q .ret st):ZI tt T G kp (.seq .ret b) st Q:=Zlc (Zai h)
theorem Z7 {id:Nat}(h:Q (.exit id) st):ZI tt T G kp (.seq (.exit id) b) st Q:=Zlc (ZnV h)
theorem ZA (h:ZI tt T G kp (.seq a (.seq b d)) st Q):ZI tt T G kp (.seq (.seq a b) d) st Q:=by
 obtain⟨n0,e,s,h1,h2⟩:=h;refine⟨n0,e,s,fun n hn=>?_,h2⟩;rw[← h1 n hn];simp only[Yt];cases Yt tt T G kp n a st with
 | none=>rfl
 | some x=>obtain⟨e,s⟩:=x; cases e <;> rfl
theorem ZcS {x:Operand}(h:rd G st.get x=some (bV true)) (h1:ZI tt T G kp a st Q):ZI tt T G kp (.cond x a b) st Q:=by
 unfold bV at h;obtain⟨n0,e,s,h3,h4⟩:=h1; exact⟨n0,e,s,fun n hn=>by simp only[Yt,h,h3 n hn,if_true],h4⟩
theorem ZdI {x:Operand}(h:rd G st.get x=some (bV false)) (h1:ZI tt T G kp b st Q):ZI tt T G kp (.cond x a b) st Q:=by
 unfold bV at h;obtain⟨n0,e,s,h3,h4⟩:=h1; exact⟨n0,e,s,fun n hn=>by simp only[Yt,h,h3 n hn,Bool.false_eq_true,if_false],h4⟩
theorem Zw {x:Operand}(h:rd G st.get x=some (bV true)) (h1:ZI tt T G kp (.seq a d) st Q):ZI tt T G kp (.seq (.cond x a b) d) st Q:=by
 unfold bV at h;obtain⟨n0,e,s,h3,h4⟩:=h1; exact⟨n0,e,s,fun n hn=>by rw[← h3 n hn]; simp only[Yt,h,if_true],h4⟩
theorem Zv {x:Operand}(h:rd G st.get x=some (bV false)) (h1:ZI tt T G kp (.seq b d) st Q):ZI tt T G kp (.seq (.cond x a b) d) st Q:=by
 unfold bV at h;obtain⟨n0,e,s,h3,h4⟩:=h1; exact⟨n0,e,s,fun n hn=>by rw[← h3 n hn]; simp only[Yt,h,Bool.false_eq_true,if_false],h4⟩
theorem ZgU {id:Nat}(h:ZI tt T G kp c st (ZkK id Q)):ZI tt T G kp (.block id c) st Q:=by
 obtain⟨n0,e,s,h1,h2⟩:=h;cases e with
 | normal=>exact⟨n0,.normal,s,fun n hn=>by simp[Yt,h1 n hn],h2⟩
 | ret=>exact⟨n0,.ret,s,fun n hn=>by simp[Yt,h1 n hn],h2⟩
 | exit id' =>
  simp only[ZkK] at h2;split at h2
  ·rename_i hid; exact⟨n0,.normal,s,fun n hn=>by simp[Yt,h1 n hn,hid],h2⟩
  ·rename_i hid; exact⟨n0,.exit id',s,fun n hn=>by simp[Yt,h1 n hn,hid],h2⟩
theorem Zx {id:Nat}(h:ZI tt T G kp c st (ZkK id (ZiT (fun s=>ZI tt T G kp d s Q) Q))):ZI tt T G kp (.seq (.block id c) d) st Q:=Zlc (ZgU h)
theorem Zxr {n:Nat}{st st':ASt}:∀ {c:Code}{key:Nat},firstJ c=some key→(kp key).ks.isEmpty=false→Zcl (kp key) st=Zcl (kp key) st'→Yt tt T G kp n c st=Yt tt T G kp n c st' := by
 intro c;induction c with
 | region id ops dr =>
  intro key hc ha hf;simp only[firstJ,Option.some.injEq] at hc;subst hc;simp only[Yt,ZbL,ha,Bool.false_eq_true,if_false,hf]
 | seq a b iha ihb =>
  intro key hc ha hf;simp only[firstJ] at hc;simp only[Yt,iha hc ha hf]
 | block id c ih =>
  intro key hc ha hf;simp only[firstJ] at hc;simp only[Yt,ih hc ha hf]
 | loop c ih =>
  intro key hc ha hf;simp only[firstJ,Option.some.injEq] at hc;subst hc;cases n with
  | zero=>rfl
  | succ n=>simp only[Yt,ZlJ,hf]
 | _=>intro key hc; simp[firstJ] at hc
theorem ZiE {key:Nat}{kq:Kp}{H:ASt}(hc:firstJ c=some key) (hk:kp key=kq) (ha:kq.ks.isEmpty=false) (hf:Zcl kq st=Zcl kq H) (h:ZI tt T G kp c H Q):ZI tt T G kp c st Q:=by
 subst hk;obtain⟨n0,e,s,h1,h2⟩:=h;exact⟨n0,e,s,fun n hn=>by rw[Zxr hc ha hf]; exact h1 n hn,h2⟩
theorem ZoD {σ ρ:Type}{l rhs:Option ρ}(_:l=rhs) (H:σ→ASt) (f:σ→Option ρ) (hJ:∀ s,f s=rhs→ZI tt T G kp b (H s) Q) (hm:(∀ s,f s=rhs→ZI tt T G kp b (H s) Q)→ZI tt T G kp (.seq a b) st Q):ZI tt T G kp (.seq a b) st Q:=hm hJ
theorem ZtB {σ ρ:Type}{l rhs:Option ρ}(_:l=rhs) (X:AE) (H:σ→ASt) (f:σ→Option ρ) (hJ:∀ s,f s=rhs→Q X (H s)) (hm:(∀ s,f s=rhs→Q X (H s))→ZI tt T G kp c st Q):ZI tt T G kp c st Q:=hm hJ
theorem Zl5 {id:Nat}{ops:Array Oper}{kq:Kp}(hc:c = .region id ops false) (hk:kp (id+1000000)=kq) (hf:ZbL kq st=st0) (h:Zdd tt T G ops.toList ops.toList st0=some st1) (hq:Q .normal st1):ZI tt T G kp c st Q:=⟨0,_,_,fun n _=>by subst hc; simp[Yt,hk,hf,h],hq⟩
theorem Zwd {id:Nat}{ops:Array Oper}{kq:Kp}{fs:List Foot}(hc:c = .region id ops true) (hk:kp (id+1000000)=kq) (hf:ZbL kq st=st0) (h:ZdF tt T G ops.toList ops.toList st0=some (st1,fs)) (hd:ZhT ops.toList fs=true) (hq:Q .normal st1):ZI tt T G kp c st Q:=⟨0,_,_,fun n _=>by subst hc; simp[Yt,hk,hf,h,hd],hq⟩
theorem Zoi {id:Nat}{ops:Array Oper}{kq:Kp}(hc:c = .region id ops false) (hk:kp (id+1000000)=kq) (hf:ZbL kq st=st0) (h:Zdd tt T G ops.toList ops.toList st0=some st1) (hq:ZI tt T G kp b st1 Q):ZI tt T G kp (.seq c b) st Q:=Zlc (Zl5 hc hk hf h hq)
def Zev {σ ρ:Type}(step:σ→Option (σ ⊕ ρ)):Nat→σ→Option ρ
 | 0,_=>none
 | m+1,s=>match step s with | some (.inl s')=>Zev step m s' | some (.inr r)=>some r | none=>none
theorem ZmH {σ ρ:Type}{step:σ→Option (σ ⊕ ρ)}:∀ {m:Nat}{s:σ}{r:ρ},Zev step m s=some r→∀ k,Zev step (m+k) s=some r
 | 0,_,_,h=>by simp[Zev] at h
 | m+1,s,r,h=>by
  intro k;rw[show m+1+k=(m+k)+1 by omega];simp only[Zev] at h ⊢;split at h
  ·rename_i s' hs
   exact ZmH h k
  ·exact h
  ·simp at h
noncomputable def Ze {σ ρ:Type}(step:σ→Option (σ ⊕ ρ)) (s:σ):Option ρ:=by
 classical
 exact if h:∃ m r,Zev step m s=some r then some (Classical.choose (Classical.choose_spec h)) else none
theorem ZgV {σ ρ:Type}{step:σ→Option (σ ⊕ ρ)}{s:σ}{r:ρ}:Ze step s=some r↔∃ m,Zev step m s=some r:=by
 unfold Ze;constructor
 ·intro h
  split at h
  ·rename_i hx
   have:=Classical.choose_spec (Classical.choose_spec hx);injection h with h;rw[h] at this;exact⟨_,this⟩
  ·simp at h
 ·rintro⟨m,h⟩
  have hx:∃ m r,Zev step m s=some r:=⟨m,r,h⟩
  rw[dif_pos hx];have h2:=Classical.choose_spec (Classical.choose_spec hx);have h3:=ZmH h (Classical.choose hx);have h4:=ZmH h2 m;rw[Nat.add_comm,h3] at h4;exact h4.symm
theorem ZmI {σ ρ:Type}(step:σ→Option (σ ⊕ ρ)) (s:σ):Ze step s=(match step s with | some (.inl s')=>Ze step s' | some (.inr r)=>some r | none=>none):=by
 apply Option.ext
 intro r;rw[ZgV];constructor
 ·rintro⟨m,h⟩
  cases m with
  | zero=>simp[Zev] at h
  | succ m =>
   simp only[Zev] at h;split at h
   ·exact ZgV.2 ⟨m,h⟩
   ·exact h
   ·simp at h
 ·intro h
  split at h
  ·rename_i s' hs
   obtain⟨m,hm⟩:=ZgV.1 h;exact⟨m+1,by simp[Zev,hs,hm]⟩
  ·rename_i r' hs
   exact⟨1,by simpa[Zev,hs] using h⟩
  ·simp at h
def QL {σ ρ:Type}(kq:Kp) (H:σ→ASt) (Q:AE→ASt→Prop) (r:ρ):σ ⊕ ρ→AE→ASt→Prop
 | .inl s'=>ZiT (fun st=>Zcl kq st=H s') fun _ _=>False
 | .inr r'=>ZiT (fun _=>False) fun e st=>r'=r→Q e st
theorem Zyt {σ ρ:Type}{kq:Kp}{step:σ→Option (σ ⊕ ρ)}{H:σ→ASt}{r:ρ}
  (hb:∀ s x,step s=some x→ZI tt T G kp c (H s) (QL kq H Q r x)) :
  ∀ (m:Nat) (s:σ) (st:ASt),Zev step m s=some r→Zcl kq st=H s→∃ n0 e s',(∀ M,n0≤M→∀ n,n0≤n→ZlJ kq (Yt tt T G kp n c) M st=some (e,s'))∧Q e s' := by
 intro m;induction m with
 | zero=>intro s st h; simp[Zev] at h
 | succ m ih =>
  intro s st h hf;simp only[Zev] at h;split at h
  ·rename_i s' hs
   obtain⟨n1,e,st',h1,h2⟩:=hb s _ hs;cases e with
   | normal =>
    obtain⟨n2,e2,st2,h3,h4⟩:=ih s' st' h h2;refine⟨max n1 n2+1,e2,st2,fun M hM n hn=>?_,h4⟩;obtain⟨M,rfl⟩:∃ M',M=M'+1:=⟨M-1,by omega⟩
    simp only[ZlJ,hf,h1 n (by omega)];exact h3 M (by omega) n (by omega)
   | exit id=>exact h2.elim
   | ret=>exact h2.elim
  ·rename_i r' hs
   injection h with h;subst h;obtain⟨n1,e,st',h1,h2⟩:=hb s _ hs;cases e with
   | normal=>exact h2.elim
   | exit id =>
    refine⟨n1+1,_,_,fun M hM n hn=>?_,h2 rfl⟩;obtain⟨M,rfl⟩:∃ M',M=M'+1:=⟨M-1,by omega⟩
    simp only[ZlJ,hf,h1 n (by omega)]
   | ret =>
    refine⟨n1+1,_,_,fun M hM n hn=>?_,h2 rfl⟩;obtain⟨M,rfl⟩:∃ M',M=M'+1:=⟨M-1,by omega⟩
    simp only[ZlJ,hf,h1 n (by omega)]
  ·simp at h
theorem Xs {σ ρ:Type}{kq:Kp}{step:σ→Option (σ ⊕ ρ)}{H:σ→ASt}(hk:kp (firstId c)=kq){s:σ}{r:ρ}
  (hr:Ze step s=some r) (hf:Zcl kq st=H s)
  (hb:∀ s x,step s=some x→ZI tt T G kp c (H s) (QL kq H Q r x)):ZI tt T G kp (.loop c) st Q:=by
 obtain⟨m,hm⟩:=ZgV.1 hr;obtain⟨n0,e,s',h1,h2⟩:=Zyt hb m s st hm hf;refine⟨n0,e,s',fun n hn=>?_,h2⟩;simp only[Yt];rw[hk];exact h1 n hn n hn
theorem fnE {fn:Func}{args:List PV}{w:Bool}{r:PV×List (List Cell)}(hb:fn.body=some c) (hc:Zly args=true) (h:ZI tt T G kp c ⟨(ioIn 0 0 args).1++List.replicate (fn.ntmps-args.length) .skip,Zk2 args⟩ (YP tt w fn args r)):∃ kp fl n,ZN tt T G kp fl n fn args=some r:=by
 obtain⟨n0,e,s,h1,h2⟩:=h;exact⟨kp,w,n0,Zxm hb hc ⟨e,s,h1 n0 (Nat.le_refl _),h2⟩⟩
end
def idx {α:Type}(l:List α) (i:Int):Option α:=if 0≤i then l[i.toNat]? else none
theorem ZbP {α:Type}{l:List α}{i:Int}{x:α}(h:idx l i=some x):0≤i∧l[i.toNat]? = some x:=by
 unfold idx at h;split at h
 ·exact⟨by assumption,h⟩
 ·simp at h
def inA (n:Nat) (i:Int):Option Nat:=if 0≤i∧i<n then some i.toNat else none
theorem Yj {n:Nat}{i:Int}{j:Nat}(h:inA n i=some j):0≤i∧i.toNat=j∧j<n:=by
 unfold inA at h;split at h
 ·simp at h
  omega
 ·simp at h
def chk (p:Prop) [Decidable p]:Option Unit:=if p then some () else none
theorem ZO {p:Prop}[Decidable p]{u:Unit}(h:chk p=some u):p:=by
 unfold chk at h;split at h
 ·assumption
 ·simp at h
theorem Zxs {p:Prop}[Decidable p] (h:p):chk p=some ():=by simp[chk,h]
@[simp] theorem ZzX {k:IntKind}{l m:List Int}:Zg k l=Zg k m↔l=m:=⟨ZuC,fun h=>by rw[h]⟩
@[simp] theorem ZAM {n:Nat}{k:IntKind}{a b:Arr n}:arC k a=arC k b↔a=b:=⟨Zpy,fun h=>by rw[h]⟩
@[simp] theorem ZAN {n:Nat}{k:IntKind}{a b:Arr n}{s t:List Cell}:arC k a++s=arC k b++t↔a=b∧s=t:=by
 constructor
 ·intro h
  obtain⟨h1,h2⟩:=List.append_inj h (by simp);exact⟨Zpy h1,h2⟩
 ·rintro⟨rfl,rfl⟩; rfl
theorem ZsA {α:Type}{f:α→List Cell}(hf:∀ a b,f a=f b→a=b){l m:List α}:l.map f=m.map f↔l=m:=List.map_inj_right hf
@[simp] theorem ZAj {n:Nat}{k:IntKind}{l m:List (Arr n)}:List.map (arC k) l=List.map (arC k) m↔l=m:=ZsA fun _ _ h=>Zpy h
@[simp] theorem Zy8 {n:Nat}{k:IntKind}{l:List (Arr n)}:∀ x∈List.map (arC k) l,x.length=n:=by simp
@[simp] theorem Znm {k:IntKind}:Zg k []=[]:=rfl
@[simp] theorem ZmJ {k:IntKind}{x:Int}{l:List Int}:Zg k (x :: l)=[.v (.int k x)] :: Zg k l:=rfl
@[simp] theorem YE {k:IntKind}{l m:List Int}:Zg k (l++m)=Zg k l++Zg k m:=intsR_append.symm
@[simp] theorem Zld {k:IntKind}{l:List Int}{n:Nat}:Zg k (l.take n)=(Zg k l).take n:=(ZmE n).symm
@[simp] theorem Zrk {k:IntKind}{l:List Int}{n:Nat}:Zg k (l.drop n)=(Zg k l).drop n:=(Zo2 n).symm
@[simp] theorem Zt {k:IntKind}{l:List Int}{n:Nat}{x:Int}:Zg k (l.set n x)=(Zg k l).set n [.v (.int k x)]:=(Zp n x).symm
@[simp] theorem Zp3 {k:IntKind}{n:Nat}{x:Int}:Zg k (List.replicate n x)=List.replicate n [.v (.int k x)]:=by simp[Zg]
@[simp] theorem Zzt {k:IntKind}{m:List Int}:(∀ l,l∈Zg k m→l.length=1)=True:=eq_true fun l h=>intsR_all l h
@[simp] theorem isSl_v (x:Value):Cell.isSl (.v x)=false:=rfl
@[simp] theorem ZAO (els:List (List Cell)):Cell.isSl (.slice .no els)=true:=rfl
@[simp] theorem ZAk (els:List (List Cell)):Cell.isSl (.slice .nil els)=false:=rfl
@[simp] theorem ZAP (a b c d e:Nat):Cell.isSl (.ms a b c d e)=false:=rfl
@[simp] theorem ZAQ (a b c d e:Nat):Cell.isSl (.fv a b c d e)=false:=rfl
@[simp] theorem ZAl (e:Nat) (els:List (List Cell)):Cell.isSl (.own e els)=false:=rfl
@[simp] theorem ZzY {k:IntKind}{l:List Int}:(Zg k l).any (fun l=>l.any Cell.isSl)=false:=by simp[Zg,List.any_map]
@[simp] theorem ZAR {n:Nat}{k:IntKind}{a:Arr n}:(arC k a).any Cell.isSl=false:=by simp[arC,ints]
@[simp] theorem ZAm {n:Nat}{k:IntKind}{l:List (Arr n)}:(List.map (arC k) l).any (fun l=>l.any Cell.isSl)=false:=by simp[List.any_map]
@[simp] theorem ZzZ {bx:Boxes}{ns:List Nat}{n:Nat}{l:List Cell}:YV bx ns (List.replicate n l)=List.replicate n (ZgB bx ns l):=by simp[YV]
@[simp] theorem Zz0 {bx:Boxes}{ns:List Nat}{els:List (List Cell)}{n:Nat}{l:List Cell}:YV bx ns (els.set n l)=(YV bx ns els).set n (ZgB bx ns l):=by simp[YV,List.map_set]
@[simp] theorem Zzu {bx:Boxes}{ns:List Nat}{els:List (List Cell)}{n:Nat}:YV bx ns (els.take n)=(YV bx ns els).take n:=by simp[YV]
@[simp] theorem Zzv {bx:Boxes}{ns:List Nat}{els:List (List Cell)}{n:Nat}:YV bx ns (els.drop n)=(YV bx ns els).drop n:=by simp[YV]
@[simp] theorem Zzw {n:Nat}{l:List Cell}(h:Yd l=true):ZH (List.replicate n l)=true:=by
 simp only[ZH,List.all_eq_true,List.mem_replicate];rintro x ⟨_,rfl⟩
 exact h
theorem Zo4 {a b:List (List Cell)}(h:∀ x∈a,x∈b) (hb:ZH b=true):ZH a=true:=by
 simp only[ZH,List.all_eq_true] at *;exact fun x hx=>hb x (h x hx)
@[simp] theorem Zy9 {n:Nat}{els:List (List Cell)}(h:ZH els=true):ZH (els.take n)=true:=Zo4 (fun _=>List.mem_of_mem_take) h
@[simp] theorem Zza {n:Nat}{els:List (List Cell)}(h:ZH els=true):ZH (els.drop n)=true:=Zo4 (fun _=>List.mem_of_mem_drop) h
@[simp] theorem Zzx {n:Nat}{els:List (List Cell)}{l:List Cell}(h:ZH els=true) (hl:Yd l=true):ZH (els.set n l)=true:=by
 simp only[ZH,List.all_eq_true] at *;intro x hx;rcases List.mem_or_eq_of_mem_set hx with h1 | rfl
 ·exact h x h1
 ·exact hl
@[simp] theorem Zzy {k:IntKind}{l:List Int}{i:Nat}(h:i<(Zg k l).length):(Zg k l)[i]=[.v (.int k (l[i]'(by simpa using h)))]:=by simp[Zg]
theorem Yb {α:Type}{l:List α}{i:Nat}{x:α}(h:l[i]? = some x):∀ h':i<l.length,l[i]=x:=fun h'=>by
 rw[List.getElem?_eq_getElem h'] at h;injection h
@[simp] theorem bits_u64:IntKind.u64.bits=64:=rfl
@[simp] theorem bits_u32:IntKind.u32.bits=32:=rfl
@[simp] theorem bits_u16:IntKind.u16.bits=16:=rfl
@[simp] theorem bits_u8:IntKind.u8.bits=8:=rfl
@[simp] theorem bits_i64:IntKind.i64.bits=64:=rfl
@[simp] theorem bits_i32:IntKind.i32.bits=32:=rfl
@[simp] theorem maxLen_eq:maxLen=9223372036854775807:=rfl
@[simp] theorem Zz1 {n m:Nat}{k:IntKind}{a:Arr n}(h:m≤n):Zap 1 m (arC k a)=(Zg k a.l).take m:=by
 unfold arC;rw[chunk_ints (by rw[a.hl]; exact h),ZmE]
@[simp] theorem Zxt {n m o:Nat}{k:IntKind}{a:Arr n}(h:o+m≤n):Zap 1 m ((arC k a).drop o)=((Zg k a.l).drop o).take m:=by
 unfold arC;rw[ZuA,chunk_ints (by have:=a.hl; simp; omega),Zo2,ZmE]
@[simp] theorem ZAS {n:Nat}{a:Arr n}:a.l.length=n:=a.hl
@[simp] theorem Zzb {n:Nat}{k:IntKind}{a b:Arr n}{s t:List Cell}:cellsEq (arC k a++s) (arC k b++t)=(match cellsEq s t with | some c=>some (decide (a=b) && c) | none=>none):=by
 have h:∀ {l m:List Int},l.length=m.length→cellsEq (ints k l++s) (ints k m++t)=(match cellsEq s t with | some c=>some ((l == m) && c) | none=>none):=by
  intro l;induction l with
  | nil=>intro m h; cases m with
   | nil=>simp[ints]; cases cellsEq s t <;> rfl
   | cons y m=>simp at h
  | cons x l ih=>intro m h; cases m with
   | nil=>simp at h
   | cons y m =>
    have:=ih (m:=m) (by simpa using h);simp only[ints] at this;simp only[ints,List.map_cons,List.cons_append,cellsEq,cellEq,if_true,this];cases cellsEq s t with
    | none=>rfl
    | some c=>simp[List.cons_beq_cons,Bool.and_assoc]
 unfold arC;rw[h (by rw[a.hl,b.hl])]
 have e:(a.l == b.l)=decide (a=b):=by
  cases a; cases b
  rw[Bool.eq_iff_iff];simp
 rw[e]
@[simp] theorem Zzc {n:Nat}{k k':IntKind}(a b:Arr n) (cs ds:List Cell):ZE (arC k a++cs) 0 (arC k' b++ds)=arC k' b++ZE cs 0 ds:=by
 unfold ZE;simp only[List.take_zero,List.nil_append,Nat.zero_add,List.length_append,Zxq,List.drop_append,List.append_assoc];rw[List.drop_of_length_le (by simp)];simp
theorem Zoj {α:Type}{f:α→List Cell}{s:Nat}(h:∀ a,(f a).length=s) (m:List α):(∀ l,l∈List.map f m→l.length=s)=True:=eq_true fun l hl=>by
 obtain⟨a,_,rfl⟩:=List.mem_map.1 hl;exact h a
@[simp↓] theorem ZAT {n:Nat}{k:IntKind}(m:List (Arr n)):(∀ l,l∈List.map (arC k) m→l.length=n)=True:=Zoj (by simp) m
def frS (b:Bool) (bx:Boxes):List Nat→List (Nat×Box)
 | []=>[]
 | x :: l=>if b then Xw bx (x :: l) else[]
@[simp] theorem ZAU (b:Bool) (bx:Boxes):frS b bx []=[]:=rfl
@[simp] theorem Zz2 (bx:Boxes) (l:List Nat):frS false bx l=[]:=by cases l <;> rfl
@[simp] theorem ZAn (bx:Boxes) (l:List Nat):frS true bx l=Xw bx l:=by cases l <;> rfl
theorem ZuG (T:Tab) (d:Option Nat) (f:FuncId) (ps:List PV) (bx:Boxes):Zj2 T d f ps bx=(match ZqN T f,ZjS bx (T.own (d.getD 90000)) ps with
 | some F,some qs =>
  match F qs with
  | some (r,outs) =>
   match ZfC bx (ioPs (T.own (d.getD 90000)) ps) outs,ZkF bx (d.getD 90000) r with
   | some (bo,br),some (p,bn) =>
    if nodupB (ioPs (T.own (d.getD 90000)) ps++(br++bn).map (·.1)) && (XR bx (T.own (d.getD 90000)) ps).all (fun x=>!(ioPs (T.own (d.getD 90000)) ps++Zdc bx (T.own (d.getD 90000)) ps++(br++bn).map (·.1)).contains x) && (bn.isEmpty || d.isSome) && Zb5 ((br++bn).map (·.1)) && nodupB (ioPs (T.own (d.getD 90000)) ps++Zdc bx (T.own (d.getD 90000)) ps) && (!(hasSlR r || outs.any hasSlL) || Zb5 (XR bx (T.own (d.getD 90000)) ps)) then
     some ⟨Zdb d p,frS (hasSlR r || outs.any hasSlL) bx (XR bx (T.own (d.getD 90000)) ps)++bo++(br++bn++ZjT bx ((Zdc bx (T.own (d.getD 90000)) ps).filter fun x=>!((br++bn).map (·.1)).contains x)),XR bx (T.own (d.getD 90000)) ps++ioPs (T.own (d.getD 90000)) ps++Zdc bx (T.own (d.getD 90000)) ps++(br++bn).map (·.1)⟩
    else none
   | _,_=>none
  | none=>none
 | _,_=>none):=by
 have h:∀ (b:Bool) l,(if b then Xw bx l else[])=frS b bx l:=by
  intro b l;cases b <;> simp[-Xw]
 unfold Zj2;simp only[h];rfl
attribute [simp] ZuG
theorem ZlC {P:Program}(w:World) (t ty e:TypeId) (i:TypeInfo) (ht:P.underlying t=some (.slice e)) (hi:P.info? e=some i) (b x:Option Addr) (n c c':Nat) (hc:n≤c) :
  (Builtin.append_ #[t,t] ty #[.slice b n c,.slice x 0 c']).run P w = .ok (.slice b n c) w:=by
 have hf:∀ y:Option Addr,(Builtin.firstCells i.size 0 (.slice y 0 c')).run P w = .ok #[] w:=by
  intro y;cases y with
  | none=>simp[Builtin.firstCells]
  | some y=>simp[Builtin.firstCells,loadCells,loadCellsFrom]
 cases b <;> simp[Builtin.append_,run_underlying ht,sizeOf,typeInfo,hi,Builtin.lenOf,hc,hf,storeCells]
theorem Zo5 {P:Program}{G:Glob}{f:FuncId}{fn:Func}{α:Type}{e t N:Nat}{rows:List α→List (List Cell)}(hfn:P.funcs[f]? = some fn) (hb:fn.body.isNone=false) (hnm:(fn.name == "runtime.NumGoroutine")=false)
  (F:List PV→Option (PV×List (List Cell))) (hF:∀ ps r,F ps=some r→∃ l:List α,ps=[.one (.slice .no (rows l))]∧r=(.one (.own e (rows l)),[]))
  (hnil:rows []=[])
  (h1:∀ l,l≠[]→∀ r,F [.one (.slice .no (rows l))]=some r→ZR P G f fun ps=>by classical exact if ps=[.one (.slice .no (rows l))] then some r else none)
  (h2:∀ (x:Option Addr) (c:Nat) (w:World),Calls P f #[.slice x 0 c] w fun ee w'=>∃ y,ee = .returned (.slice y 0 0)∧(w'=w∨w'=w.alloc (.cells #[] t))):ZR P G f F:=by
 refine⟨⟨fn,hfn,hb,hnm⟩,?_⟩;intro S w ks hh ps vs r outs hg hs ha hk hFr;obtain⟨l,rfl,hr⟩:=hF ps _ hFr;by_cases hl:l=[]
 ·subst hl
  rw[hnil] at ha hr;injection hr with hr1 hr2;subst hr1 hr2;cases ha with
  | one ha1 ha =>
   cases ha
   cases ha1 with
   | pure ha1 =>
   obtain⟨x,c,hv,_⟩:=ha1.len;simp at hv
   subst hv;refine(h2 x c w).mono ?_;rintro ee w' ⟨y,rfl,rfl | rfl⟩
   ·exact⟨_,S,_,_,rfl,.base (.one (.none e y)),.skip (by simp) (by simp) .nil,by simp[Zq],XE.refl _ _ _,fun _ _ h=>h,fun _ _ h=>.inl h,hs⟩
   ·have hh:(w.alloc (.cells #[] t)).heap=w.heap.push (.cells #[] t):=rfl
    refine⟨_,S,_,_,rfl,.base (.one (.none e y)),.skip (by simp) (by simp) .nil,by simp[Zq],⟨rfl,rfl,rfl,by rw[hh]; simp,fun b hb _=>(by rw[hh]; simp[Array.getElem?_push,Nat.ne_of_lt hb]),fun b arr T _ ha=>⟨arr,T,(by rw[hh,Array.getElem?_push]; have hb:=Zaa ha; simp[Nat.ne_of_lt hb,ha]),Nat.le_refl _⟩⟩,fun _ _ h=>h,fun _ _ h=>.inl h,fun b o h=>by have:=hs b o h; rw[hh]; simp; omega⟩
 ·exact(h1 l hl _ hFr).2 S w ks hh _ vs r outs hg hs ha hk (by simp)
@[simp] theorem ZAV {n:Nat}{k:IntKind}{l:List Int}(h:l.length=n):arC k (⟨l,h⟩:Arr n)=ints k l:=rfl
@[simp] theorem ZAo {k:IntKind}:ints k []=[]:=rfl
@[simp] theorem Zz3 {k:IntKind}{x:Int}{l:List Int}:ints k (x :: l) = .v (.int k x) :: ints k l:=rfl
def XT {K V:Type}[DecidableEq K] (k:K):List (K×V)→Option V
 | []=>none
 | (a,v) :: l=>if k=a then some v else XT k l
def ZbQ {K V:Type}[DecidableEq K] (k:K) (v:V):List (K×V)→List (K×V)
 | []=>[(k,v)]
 | (a,w) :: l=>if k=a then(k,v) :: l else(a,w) :: ZbQ k v l
section
variable {K V:Type}[DecidableEq K]{n:Nat}{eK:K→List Cell}{eV:V→List Cell}
theorem ZmK (hn:∀ k,(eK k).length=n) (he:∀ a b,kEq (eK a) (eK b)=decide (a=b)) (k:K):∀ l:List (K×V),ZgQ n (eK k) (l.map fun x=>eK x.1++eV x.2)=(XT k l).map eV
 | []=>rfl
 | (a,v) :: l=>by
  simp only[List.map_cons,ZgQ,XT,List.take_left' (hn a),List.drop_left' (hn a),he];by_cases h:k=a
  ·simp[h]
  ·simp[h,ZmK hn he k l]
theorem ZmL (hn:∀ k,(eK k).length=n) (he:∀ a b,kEq (eK a) (eK b)=decide (a=b)) (k:K) (v:V):∀ l:List (K×V),ZgR n (eK k) (eV v) (l.map fun x=>eK x.1++eV x.2)=(ZbQ k v l).map fun x=>eK x.1++eV x.2
 | []=>rfl
 | (a,w) :: l=>by
  simp only[List.map_cons,ZgR,ZbQ,List.take_left' (hn a),he];by_cases h:k=a
  ·simp[h]
  ·simp[h,ZmL hn he k v l]
end
@[simp] theorem Zsc {n:Nat}{k k':IntKind}{a b:Arr n}{s t:List Cell}:kEq (arC k a++s) (arC k' b++t)=(decide (a=b) && kEq s t):=by
 have h:∀ {l m:List Int},l.length=m.length→kEq (ints k l++s) (ints k' m++t)=((l == m) && kEq s t):=by
  intro l;induction l with
  | nil=>intro m h; cases m with
   | nil=>simp[ints]
   | cons y m=>simp at h
  | cons x l ih=>intro m h; cases m with
   | nil=>simp at h
   | cons y m =>
    have:=ih (m:=m) (by simpa using h);simp only[ints] at this;simp only[ints,List.map_cons,List.cons_append,kEq,kEq1,this,List.cons_beq_cons,Bool.and_assoc]
 unfold arC;rw[h (by rw[a.hl,b.hl])]
 have e:(a.l == b.l)=decide (a=b):=by
  cases a; cases b
  rw[Bool.eq_iff_iff];simp
 rw[e]
@[simp] theorem ZAW {n:Nat}{k k':IntKind}{a b:Arr n}:kEq (arC k a) (arC k' b)=decide (a=b):=by
 have:=Zsc (k:=k) (k' := k') (a:=a) (b:=b) (s:=[]) (t:=[]);simpa[kEq] using this
@[simp] theorem ZqA {n:Nat}{k:IntKind}{a b:Arr n}{s t:List Cell}:kKind (arC k a++s) (arC k b++t)=kKind s t:=by
 have h:∀ {l m:List Int},l.length=m.length→kKind (ints k l++s) (ints k m++t)=kKind s t:=by
  intro l;induction l with
  | nil=>intro m h; cases m with
   | nil=>simp[ints]
   | cons y m=>simp at h
  | cons x l ih=>intro m h; cases m with
   | nil=>simp at h
   | cons y m =>
    have:=ih (m:=m) (by simpa using h);simp only[ints] at this;simp[ints,kKind,kKind1,this]
 unfold arC;exact h (by rw[a.hl,b.hl])
@[simp] theorem Zz4 {n:Nat}{k:IntKind}{a b:Arr n}:kKind (arC k a) (arC k b)=true:=by
 have:=ZqA (k:=k) (a:=a) (b:=b) (s:=[]) (t:=[]);simpa[kKind] using this
@[simp] theorem ZAX {n:Nat}{k:IntKind}{a:Arr n}:(arC k a).all Cell.isI=true:=by simp[arC,ints,Cell.isI]
def ZkL (l:List Int):ByteArray:=⟨(l.map fun n=>UInt8.ofNat n.toNat).toArray⟩
def Zle (s:ByteArray):List Int:=s.data.toList.map fun b=>(b.toNat:Int)
@[simp] theorem Zyu (l:List Int):ZnL (Zg .u8 l)=some (ZkL l):=by
 have:bytesL (Zg .u8 l)=some (l.map fun n=>UInt8.ofNat n.toNat):=by
  induction l with
  | nil=>rfl
  | cons x l ih=>simp only[Zg,List.map_cons] at *; simp[bytesL,byteOf,ih]
 simp[ZnL,this,ZkL]
@[simp] theorem Zzz (s:ByteArray):(s.data.toList.map fun b=>[Cell.v (.int .u8 (b.toNat:Int))])=Zg .u8 (Zle s):=by simp[Zg,Zle]
@[simp] theorem Zzd (bx:Boxes) (o:Own) (els:List (List Cell)):Zh7 bx (.slice o els)=some els:=rfl
@[simp] theorem ZAp (a b:ByteArray):pureOf (Op.stringOp .eql a b)=some (.bool (decide (a=b))):=by
 have:(a == b)=decide (a=b):=by
  rw[Bool.eq_iff_iff,MapKept.bytes_beq];simp
 show some (Value.bool (a.toList == b.toList))=_
 rw[← beq_toListBytes,this]
@[simp] theorem ZAq (a b:ByteArray):pureOf (Op.stringOp .neq a b)=some (.bool (!decide (a=b))):=by
 have:(a == b)=decide (a=b):=by
  rw[Bool.eq_iff_iff,MapKept.bytes_beq];simp
 show some (Value.bool (!(a.toList == b.toList)))=_
 rw[← beq_toListBytes,this]
end Go.Av
namespace Go.Lc
open Go.RowKit
open Go.Av
set_option linter.unusedVariables false
set_option linter.unusedSimpArgs false
section
set_option maxRecDepth 100000
abbrev Tapi_OutPoint:=(Arr 32)×Int
abbrev Tapi_Output:=Int×(List Int)
abbrev Tapi_Coin:=Tapi_OutPoint×Tapi_Output×Int×Bool
abbrev Tapi_Input:=Tapi_OutPoint×Int×(List (List Int))
abbrev Tapi_Tx:=Int×(List Tapi_Input)×(List Tapi_Output)×Int
noncomputable def Zbc (a0:Int):Option ((List Int)) :=
 some ([1,1,IntKind.u8.wrap (1+((a0).tmod 6)),5])
noncomputable def YJ (a0:(List Int)) (a1:(List Int)):Option ((List Int)) :=
 (chk (0≤IntKind.i64.wrap ((a0.length:Int)+(a1.length:Int))∧IntKind.i64.wrap ((a0.length:Int)+(a1.length:Int))≤140737488355328)).bind fun _=>(chk (a0.length≤140737488355328)).bind fun _=>(chk (a0.length+a1.length≤140737488355328)).bind fun _=>some (a0++a1)
noncomputable def ZfF (p9:(List Int)):Option (List Int) :=
 some (p9)
noncomputable def ZdJ (a1:Int) (a0:Int):(Int×(List Int))→Option ((Int×(List Int)) ⊕ ((List Int)))
 | (p8,p9)=>(if p8<a1 then(chk (¬ (IntKind.i64.wrap (8 * p8)<0))).bind fun _=>(inA (p9.length) (p8)).bind fun j13=>some (.inl (IntKind.i64.wrap (p8+1),(p9).set j13 (IntKind.u8.wrap ((a0).fdiv (2 ^ (min (IntKind.i64.wrap (8 * p8)).toNat 64)))))) else(ZfF p9).map Sum.inr)
noncomputable def Xo (a0:Int) (a1:Int):Option ((List Int)) :=
 (chk (0≤a1∧a1≤140737488355328)).bind fun _=>Ze (ZdJ a1 a0) (0,List.replicate ((a1).toNat) 0)
noncomputable def Z9 (a0:(List Int)) (a1:Int):Option ((List Int)) :=
 (Xo (IntKind.u64.wrap (a1)) 4).bind fun y1=>(YJ a0 y1).bind fun y2=>some (y2)
noncomputable def ZaL (a0:(List Int)) (a1:Int):Option ((List Int)) :=
 (Xo a1 8).bind fun y1=>(YJ a0 y1).bind fun y2=>some (y2)
noncomputable def ZbR (a0:(List Int)) (a1:Int):Option ((List Int)) :=
 (Xo (IntKind.u64.wrap (a1)) 2).bind fun y1=>(YJ a0 y1).bind fun y2=>some (y2)
noncomputable def YB (a0:(List Int)) (a1:Int):Option ((List Int)) :=
 (if a1<253 then(YJ a0 [IntKind.u8.wrap (a1)]).bind fun y1=>some (y1) else(if a1<65536 then(YJ a0 [253]).bind fun y2=>(ZbR y2 (IntKind.u16.wrap (a1))).bind fun y3=>some (y3) else(if a1<4294967296 then(YJ a0 [254]).bind fun y4=>(Z9 y4 (IntKind.u32.wrap (a1))).bind fun y5=>some (y5) else(YJ a0 [255]).bind fun y6=>(ZaL y6 a1).bind fun y7=>some (y7))))
noncomputable def Xv (a0:(List Int)) (a1:(Arr 32)):Option ((List Int)) :=
 (YJ a0 a1.l).bind fun y1=>some (y1)
noncomputable def Zfy (a0:Tapi_OutPoint):Option ((List Int)) :=
 (Xv ([]:(List Int)) a0.1).bind fun y1=>(Z9 y1 a0.2).bind fun y2=>some (y2)
noncomputable def Xf (a0:(List Int)) (a1:(List Int)):Option ((List Int)) :=
 (YB a0 (IntKind.u64.wrap ((a1.length:Int)))).bind fun y1=>(YJ y1 a1).bind fun y2=>some (y2)
noncomputable def ZcT (p81:(List Int)):Option (List Int) :=
 some (p81)
noncomputable def ZcU (p80:Int) (p110:(List Int)):Option ((Int×(List Int)) ⊕ ((List Int))) :=
 some (.inl (IntKind.i64.wrap (p80+1),p110))
noncomputable def Zee (x98:Tapi_Input) (p80:Int):(Int×(List Int))→Option ((Int×(List Int)) ⊕ ((Int×(List Int)) ⊕ ((List Int))))
 | (p109,p110)=>(if p109<(x98.2.2.length:Int) then(idx (x98.2.2) (p109)).bind fun x114=>(Xf ([]:(List Int)) x114).bind fun y115=>(chk (p110.length+y115.length≤140737488355328)).bind fun _=>some (.inl (IntKind.i64.wrap (p109+1),p110++y115)) else(ZcU p80 p110).map Sum.inr)
noncomputable def ZfX (a0:Tapi_Tx):(Int×(List Int))→Option ((Int×(List Int)) ⊕ ((List Int)))
 | (p80,p81)=>(if p80<(a0.2.1.length:Int) then(idx (a0.2.1) (p80)).bind fun x98=>(YB ([]:(List Int)) (IntKind.u64.wrap ((x98.2.2.length:Int)))).bind fun y99=>(chk (p81.length+y99.length≤140737488355328)).bind fun _=>Ze (Zee x98 p80) (0,p81++y99) else(ZcT p81).map Sum.inr)
noncomputable def ZbA (a0:Tapi_Tx) (p38:(List Int)) (a1:Bool):Option (List Int) :=
 (Z9 ([]:(List Int)) a0.2.2.2).bind fun y44=>(chk (p38.length+y44.length≤140737488355328)).bind fun _=>(if ¬ (a1=true) then some (p38++y44) else Ze (ZfX a0) (0,p38++y44))
noncomputable def ZfY (a0:Tapi_Tx) (a1:Bool):(Int×(List Int))→Option ((Int×(List Int)) ⊕ ((List Int)))
 | (p37,p38)=>(if p37<(a0.2.2.1.length:Int) then(idx (a0.2.2.1) (p37)).bind fun x117=>(ZaL ([]:(List Int)) (IntKind.u64.wrap (x117.1))).bind fun y118=>(chk (p38.length+y118.length≤140737488355328)).bind fun _=>(Xf ([]:(List Int)) x117.2).bind fun y120=>(chk (p38.length+y118.length+y120.length≤140737488355328)).bind fun _=>some (.inl (IntKind.i64.wrap (p37+1),p38++y118++y120)) else(ZbA a0 p38 a1).map Sum.inr)
noncomputable def ZbB (a0:Tapi_Tx) (p17:(List Int)) (a1:Bool):Option (List Int) :=
 (YB ([]:(List Int)) (IntKind.u64.wrap ((a0.2.2.1.length:Int)))).bind fun y23=>(chk (p17.length+y23.length≤140737488355328)).bind fun _=>Ze (ZfY a0 a1) (0,p17++y23)
noncomputable def ZfZ (a0:Tapi_Tx) (a1:Bool):(Int×(List Int))→Option ((Int×(List Int)) ⊕ ((List Int)))
 | (p16,p17)=>(if p16<(a0.2.1.length:Int) then(idx (a0.2.1) (p16)).bind fun x122=>(Zfy x122.1).bind fun y123=>(chk (p17.length+y123.length≤140737488355328)).bind fun _=>(Z9 ([]:(List Int)) x122.2.1).bind fun y125=>(chk (p17.length+y123.length+y125.length≤140737488355328)).bind fun _=>some (.inl (IntKind.i64.wrap (p16+1),p17++y123++y125)) else(ZbB a0 p17 a1).map Sum.inr)
noncomputable def ZfG (a0:Tapi_Tx) (a1:Bool):Option ((List Int)) :=
 (Z9 ([]:(List Int)) a0.1).bind fun y1=>(YB ([]:(List Int)) (IntKind.u64.wrap ((a0.2.1.length:Int)))).bind fun y2=>(chk (y1.length+y2.length≤140737488355328)).bind fun _=>Ze (ZfZ a0 a1) (0,y1++y2)
noncomputable def ZeJ (a0:Tapi_Tx):Option Bool :=
 (ZfG a0 true).bind fun y26=>some (decide ((y26.length:Int)≤20000))
noncomputable def Zgh (p19:Int):Option ((Int) ⊕ (Bool)) :=
 some (.inl (IntKind.i64.wrap (p19+1)))
noncomputable def ZeK (x27:Tapi_Input) (p19:Int):Int→Option ((Int) ⊕ ((Int) ⊕ (Bool)))
 | p31=>(if p31<(x27.2.2.length:Int) then(idx (x27.2.2) (p31)).bind fun x33=>(if 520<(x33.length:Int) then some (.inr (.inr (false))) else some (.inl (IntKind.i64.wrap (p31+1)))) else(Zgh p19).map Sum.inr)
noncomputable def Zgi (a0:Tapi_Tx):Int→Option ((Int) ⊕ (Bool))
 | p19=>(if p19<(a0.2.1.length:Int) then(idx (a0.2.1) (p19)).bind fun x27=>(if 32<(x27.2.2.length:Int) then some (.inr (false)) else Ze (ZeK x27 p19) 0) else(ZeJ a0).map Sum.inr)
noncomputable def ZeL (a0:Tapi_Tx):Option Bool :=
 Ze (Zgi a0) 0
noncomputable def Zgj (a0:Tapi_Tx):Int→Option ((Int) ⊕ (Bool))
 | p4=>(if p4<(a0.2.2.1.length:Int) then(idx (a0.2.2.1) (p4)).bind fun x34=>(if (x34.1<0∨520<(x34.2.length:Int)) then some (.inr (false)) else some (.inl (IntKind.i64.wrap (p4+1)))) else(ZeL a0).map Sum.inr)
noncomputable def Zil (a0:Tapi_Tx):Option (Bool) :=
 (if (64<(a0.2.1.length:Int)∨64<(a0.2.2.1.length:Int)) then some (false) else Ze (Zgj a0) 0)
noncomputable def Yg (a0:(List Int)) (a1:(List Int)):Option ((List Int)) :=
 (chk (0≤IntKind.i64.wrap ((a0.length:Int)+(a1.length:Int))∧IntKind.i64.wrap ((a0.length:Int)+(a1.length:Int))≤140737488355328)).bind fun _=>(chk (a0.length≤140737488355328)).bind fun _=>(chk (a0.length+a1.length≤140737488355328)).bind fun _=>some (a0++a1)
noncomputable def ZfH (p9:(List Int)):Option (List Int) :=
 some (p9)
noncomputable def ZdK (a1:Int) (a0:Int):(Int×(List Int))→Option ((Int×(List Int)) ⊕ ((List Int)))
 | (p8,p9)=>(if p8<((List.replicate ((a1).toNat) 0).length:Int) then(chk (¬ (IntKind.i64.wrap (8 * p8)<0))).bind fun _=>(inA (p9.length) (p8)).bind fun j13=>some (.inl (IntKind.i64.wrap (p8+1),(p9).set j13 (IntKind.u8.wrap ((a0).fdiv (2 ^ (min (IntKind.i64.wrap (8 * p8)).toNat 64)))))) else(ZfH p9).map Sum.inr)
noncomputable def Yh (a0:Int) (a1:Int):Option ((List Int)) :=
 (chk (0≤a1∧a1≤140737488355328)).bind fun _=>Ze (ZdK a1 a0) (0,List.replicate ((a1).toNat) 0)
noncomputable def Z2 (a0:(List Int)) (a1:Int):Option ((List Int)) :=
 (Yh (IntKind.u64.wrap (a1)) 4).bind fun y1=>(Yg a0 y1).bind fun y2=>some (y2)
noncomputable def YQ (a0:(List Int)) (a1:Int):Option ((List Int)) :=
 (if a1<253 then(Yh a1 1).bind fun y1=>(Yg a0 y1).bind fun y2=>some (y2) else(if a1<65536 then(Yh a1 2).bind fun y3=>(Yg [253] y3).bind fun y4=>(Yg a0 y4).bind fun y5=>some (y5) else(if a1<4294967296 then(Yh a1 4).bind fun y6=>(Yg [254] y6).bind fun y7=>(Yg a0 y7).bind fun y8=>some (y8) else(Yh a1 8).bind fun y9=>(Yg [255] y9).bind fun y10=>(Yg a0 y10).bind fun y11=>some (y11))))
noncomputable def YC (a0:(List Int)) (a1:(Arr 32)):Option ((List Int)) :=
 (Yg a0 a1.l).bind fun y1=>some (y1)
noncomputable def ZdL (a0:Tapi_OutPoint):Option ((List Int)) :=
 (YC ([]:(List Int)) a0.1).bind fun y1=>(Z2 y1 a0.2).bind fun y2=>some (y2)
noncomputable def XU (a0:(List Int)) (a1:(List Int)):Option ((List Int)) :=
 (YQ a0 (IntKind.u64.wrap ((a1.length:Int)))).bind fun y1=>(Yg y1 a1).bind fun y2=>some (y2)
noncomputable def ZbS (a0:(List Int)) (a1:Int):Option ((List Int)) :=
 (Yh a1 8).bind fun y1=>(Yg a0 y1).bind fun y2=>some (y2)
noncomputable def Zew (a0:Tapi_Output):Option ((List Int)) :=
 (ZbS ([]:(List Int)) (IntKind.u64.wrap (a0.1))).bind fun y1=>(XU y1 a0.2).bind fun y2=>some (y2)
noncomputable def YZ (p61:(List Int)):Option (List Int) :=
 some (p61)
noncomputable def ZaM (p60:Int) (p83:(List Int)):Option ((Int×(List Int)) ⊕ ((List Int))) :=
 some (.inl (IntKind.i64.wrap (p60+1),p83))
noncomputable def ZbT (x74:Tapi_Input) (p60:Int):(Int×(List Int))→Option ((Int×(List Int)) ⊕ ((Int×(List Int)) ⊕ ((List Int))))
 | (p82,p83)=>(if p82<(x74.2.2.length:Int) then(idx (x74.2.2) (p82)).bind fun x86=>(XU p83 x86).bind fun y87=>some (.inl (IntKind.i64.wrap (p82+1),y87)) else(ZaM p60 p83).map Sum.inr)
noncomputable def ZaN (a0:Tapi_Tx) (a1:Bool):(Int×(List Int))→Option ((Int×(List Int)) ⊕ ((List Int)))
 | (p60,p61)=>(if p60<(a0.2.1.length:Int) then(idx (a0.2.1) (p60)).bind fun x74=>(if ¬ (a1=true) then(YZ p61).map Sum.inr else(YQ p61 (IntKind.u64.wrap ((x74.2.2.length:Int)))).bind fun y75=>Ze (ZbT x74 p60) (0,y75)) else(YZ p61).map Sum.inr)
noncomputable def XV (p29:(List Int)) (a0:Tapi_Tx) (a1:Bool):Option (List Int) :=
 (Z2 p29 a0.2.2.2).bind fun y33=>Ze (ZaN a0 a1) (0,y33)
noncomputable def ZdM (a0:Tapi_Tx) (a1:Bool):(Int×(List Int))→Option ((Int×(List Int)) ⊕ ((List Int)))
 | (p28,p29)=>(if p28<(a0.2.2.1.length:Int) then(idx (a0.2.2.1) (p28)).bind fun x88=>(Zew x88).bind fun y89=>(chk (p29.length+y89.length≤140737488355328)).bind fun _=>some (.inl (IntKind.i64.wrap (p28+1),p29++y89)) else(XV p29 a0 a1).map Sum.inr)
noncomputable def XW (p14:(List Int)) (a0:Tapi_Tx) (a1:Bool):Option (List Int) :=
 (YQ p14 (IntKind.u64.wrap ((a0.2.2.1.length:Int)))).bind fun y19=>Ze (ZdM a0 a1) (0,y19)
noncomputable def ZdN (a0:Tapi_Tx) (a1:Bool):(Int×(List Int))→Option ((Int×(List Int)) ⊕ ((List Int)))
 | (p13,p14)=>(if p13<(a0.2.1.length:Int) then(idx (a0.2.1) (p13)).bind fun x91=>(ZdL x91.1).bind fun y92=>(chk (p14.length+y92.length≤140737488355328)).bind fun _=>(Z2 (p14++y92) x91.2.1).bind fun y94=>some (.inl (IntKind.i64.wrap (p13+1),y94)) else(XW p14 a0 a1).map Sum.inr)
noncomputable def ZaG (a0:Tapi_Tx) (a1:Bool):Option ((List Int)) :=
 (Z2 ([]:(List Int)) a0.1).bind fun y1=>(YQ y1 (IntKind.u64.wrap ((a0.2.1.length:Int)))).bind fun y2=>Ze (ZdN a0 a1) (0,y2)
noncomputable def ZbU (a0:Tapi_Tx):Option Bool :=
 (ZaG a0 true).bind fun y26=>some (decide ((y26.length:Int)≤20000))
noncomputable def Zdp (p19:Int):Option ((Int) ⊕ (Bool)) :=
 some (.inl (IntKind.i64.wrap (p19+1)))
noncomputable def ZbV (x27:Tapi_Input) (p19:Int):Int→Option ((Int) ⊕ ((Int) ⊕ (Bool)))
 | p31=>(if p31<(x27.2.2.length:Int) then(idx (x27.2.2) (p31)).bind fun x33=>(if 520<(x33.length:Int) then some (.inr (.inr (false))) else some (.inl (IntKind.i64.wrap (p31+1)))) else(Zdp p19).map Sum.inr)
noncomputable def Zdq (a0:Tapi_Tx):Int→Option ((Int) ⊕ (Bool))
 | p19=>(if p19<(a0.2.1.length:Int) then(idx (a0.2.1) (p19)).bind fun x27=>(if 32<(x27.2.2.length:Int) then some (.inr (false)) else Ze (ZbV x27 p19) 0) else(ZbU a0).map Sum.inr)
noncomputable def ZbW (a0:Tapi_Tx):Option Bool :=
 Ze (Zdq a0) 0
noncomputable def Zdr (a0:Tapi_Tx):Int→Option ((Int) ⊕ (Bool))
 | p4=>(if p4<(a0.2.2.1.length:Int) then(idx (a0.2.2.1) (p4)).bind fun x34=>(if (x34.1<0∨520<(x34.2.length:Int)) then some (.inr (false)) else some (.inl (IntKind.i64.wrap (p4+1)))) else(ZbW a0).map Sum.inr)
noncomputable def Zaz (a0:Tapi_Tx):Option (Bool) :=
 (if (64<(a0.2.1.length:Int)∨64<(a0.2.2.1.length:Int)) then some (false) else Ze (Zdr a0) 0)
noncomputable def Lmade_Null:Option (Tapi_OutPoint) :=
 some ((zA 32,4294967295))
noncomputable def Zlf (a0:Tapi_OutPoint):Option (Bool) :=
 some ((decide (a0.1=zA 32) && decide (a0.2=4294967295)))
noncomputable def Zcp (a0:Tapi_Tx):Option (Bool) :=
 ((if (a0.2.1.length:Int)=1 then((a0.2.1)[0]?).bind fun x1=>(Zlf x1.1).bind fun y2=>some (y2) else some (false))).bind fun z3=>some ((decide ((a0.2.1.length:Int)=1) && z3))
noncomputable def Ltx_money_k1:Option Bool :=
 some (true)
noncomputable def Ze8 (a0:(List Tapi_Output)):(Int×Int)→Option ((Int×Int) ⊕ (Bool))
 | (p5,p6)=>(if p6<(a0.length:Int) then(idx (a0) (p6)).bind fun x8=>(if IntKind.i64.wrap (2100000000000000-p5)<x8.1 then some (.inr (false)) else some (.inl (IntKind.i64.wrap (p5+x8.1),IntKind.i64.wrap (p6+1)))) else(Ltx_money_k1).map Sum.inr)
noncomputable def ZiF (a0:(List Tapi_Output)):Option (Bool) :=
 Ze (Ze8 a0) (0,0)
noncomputable def ZiU (p8:(List (Tapi_OutPoint×Bool))) (a0:Tapi_Tx):Option Int :=
 ((if (XT (zA 32,4294967295) p8).getD false=true then(Zcp a0).bind fun y10=>some (!(y10)) else some (false))).bind fun z11=>(if ((XT (zA 32,4294967295) p8).getD false=true∧z11=true) then some (92) else some (0))
noncomputable def Ze9 (a0:Tapi_Tx):(Int×(List (Tapi_OutPoint×Bool)))→Option ((Int×(List (Tapi_OutPoint×Bool))) ⊕ (Int))
 | (p7,p8)=>(if p7<(a0.2.1.length:Int) then(idx (a0.2.1) (p7)).bind fun x12=>(if (XT x12.1 p8).getD false=true then some (.inr (91)) else some (.inl (IntKind.i64.wrap (p7+1),ZbQ x12.1 true p8))) else(ZiU p8 a0).map Sum.inr)
noncomputable def ZgW (a0:Tapi_Tx):Option (Int) :=
 (Zil a0).bind fun y1=>(if ¬ (y1=true) then some (4) else(if ((a0.2.1.length:Int)=0∨(a0.2.2.1.length:Int)=0) then some (93) else(ZiF a0.2.2.1).bind fun y2=>(if ¬ (y2=true) then some (90) else Ze (Ze9 a0) (0,([]:(List (Tapi_OutPoint×Bool)))))))
noncomputable def ZqB (p5:Int):Option (Int×Bool) :=
 some ((p5,true))
noncomputable def Zf0 (a0:(List Tapi_Coin)):(Int×Int)→Option ((Int×Int) ⊕ (Int×Bool))
 | (p5,p6)=>(if p6<(a0.length:Int) then(idx (a0) (p6)).bind fun x8=>(if (x8.2.1.1<0∨IntKind.i64.wrap (2100000000000000-p5)<x8.2.1.1) then some (.inr ((0,false))) else some (.inl (IntKind.i64.wrap (p5+x8.2.1.1),IntKind.i64.wrap (p6+1)))) else(ZqB p5).map Sum.inr)
noncomputable def ZmM (a0:(List Tapi_Coin)):Option (Int×Bool) :=
 Ze (Zf0 a0) (0,0)
noncomputable def ZqC (p15:Int):Option (Int×Int) :=
 (if p15<0 then some ((0,100)) else some ((p15,0)))
noncomputable def Zm2 (a0:Tapi_Tx):(Int×Int)→Option ((Int×Int) ⊕ (Int×Int))
 | (p15,p16)=>(if p16<(a0.2.2.1.length:Int) then(idx (a0.2.2.1) (p16)).bind fun x18=>some (.inl (IntKind.i64.wrap (p15-x18.1),IntKind.i64.wrap (p16+1))) else(ZqC p15).map Sum.inr)
noncomputable def Zkc (a1:(List Tapi_Coin)) (a0:Tapi_Tx):Option (Int×Int) :=
 (ZmM a1).bind fun y10=>(if ¬ (y10.2=true) then some ((0,90)) else Ze (Zm2 a0) (y10.1,0))
noncomputable def Zf1 (a1:(List Tapi_Coin)) (a0:Tapi_Tx):Int→Option ((Int) ⊕ (Int×Int))
 | p7=>(if p7<(a1.length:Int) then(idx (a1) (p7)).bind fun x19=>(idx (a0.2.1) (p7)).bind fun x20=>(if ¬ ((x19.1.1=x20.1.1∧x19.1.2=x20.1.2)) then some (.inr ((0,101))) else some (.inl (IntKind.i64.wrap (p7+1)))) else(Zkc a1 a0).map Sum.inr)
noncomputable def Zo6 (a0:Tapi_Tx) (a1:(List Tapi_Coin)):Option (Int×Int) :=
 (ZgW a0).bind fun y1=>(if ¬ (y1=0) then some ((0,y1)) else(if ¬ ((a1.length:Int)=(a0.2.1.length:Int)) then some ((0,8)) else Ze (Zf1 a1 a0) 0))
noncomputable def ZeM (a0:Tapi_OutPoint):Option (Bool) :=
 some ((decide (a0.1=zA 32) && decide (a0.2=4294967295)))
noncomputable def Zaq (a0:Tapi_Tx):Option (Bool) :=
 ((if (a0.2.1.length:Int)=1 then((a0.2.1)[0]?).bind fun x1=>(ZeM x1.1).bind fun y2=>some (y2) else some (false))).bind fun z3=>some ((decide ((a0.2.1.length:Int)=1) && z3))
noncomputable def Lref09_Check_k3:Option Int :=
 some (0)
noncomputable def ZcC (a0:Tapi_Tx):Int→Option ((Int) ⊕ (Int))
 | p43=>(if p43<(a0.2.1.length:Int) then(idx (a0.2.1) (p43)).bind fun x48=>(ZeM x48.1).bind fun y49=>((if y49=true then(Zaq a0).bind fun y50=>some (!(y50)) else some (false))).bind fun z51=>(if (y49=true∧z51=true) then some (.inr (92)) else some (.inl (IntKind.i64.wrap (p43+1)))) else(Lref09_Check_k3).map Sum.inr)
noncomputable def Zar (a0:Tapi_Tx):Option Int :=
 Ze (ZcC a0) 0
noncomputable def Zbd (p25:Int):Option ((Int) ⊕ (Int)) :=
 some (.inl (IntKind.i64.wrap (p25+1)))
noncomputable def Zbe (p25:Int) (a0:Tapi_Tx):Int→Option ((Int) ⊕ ((Int) ⊕ (Int)))
 | p57=>(if p57<p25 then(idx (a0.2.1) (p25)).bind fun x60=>(idx (a0.2.1) (p57)).bind fun x61=>(if (x60.1.1=x61.1.1∧x60.1.2=x61.1.2) then some (.inr (.inr (91))) else some (.inl (IntKind.i64.wrap (p57+1)))) else(Zbd p25).map Sum.inr)
noncomputable def ZcD (a0:Tapi_Tx):Int→Option ((Int) ⊕ (Int))
 | p25=>(if p25<(a0.2.1.length:Int) then Ze (Zbe p25 a0) 0 else(Zar a0).map Sum.inr)
noncomputable def XH (p6:Int) (a0:Tapi_Tx):Option Int :=
 (if 2100000000000000<p6 then some (90) else Ze (ZcD a0) 0)
noncomputable def ZcE (a0:Tapi_Tx):(Int×Int)→Option ((Int×Int) ⊕ (Int))
 | (p6,p7)=>(if p7<(a0.2.2.1.length:Int) then(idx (a0.2.2.1) (p7)).bind fun x62=>(if 2100000000000000<x62.1 then some (.inr (90)) else some (.inl (IntKind.i64.wrap (p6+x62.1),IntKind.i64.wrap (p7+1)))) else(XH p6 a0).map Sum.inr)
noncomputable def ZdO (a0:Tapi_Tx):Option (Int) :=
 (Zaz a0).bind fun y1=>(if ¬ (y1=true) then some (4) else(if ((a0.2.1.length:Int)=0∨(a0.2.2.1.length:Int)=0) then some (93) else Ze (ZcE a0) (0,0)))
noncomputable def ZbC (p21:Int):Option (Int×Int) :=
 (if p21<0 then some ((0,100)) else some ((p21,0)))
noncomputable def ZaH (a0:Tapi_Tx):(Int×Int)→Option ((Int×Int) ⊕ (Int×Int))
 | (p21,p22)=>(if p22<(a0.2.2.1.length:Int) then(idx (a0.2.2.1) (p22)).bind fun x24=>some (.inl (IntKind.i64.wrap (p21-x24.1),IntKind.i64.wrap (p22+1))) else(ZbC p21).map Sum.inr)
noncomputable def ZcV (p14:Int) (a0:Tapi_Tx):Option (Int×Int) :=
 (if 2100000000000000<p14 then some ((0,90)) else Ze (ZaH a0) (p14,0))
noncomputable def Zef (a1:(List Tapi_Coin)) (a0:Tapi_Tx):(Int×Int)→Option ((Int×Int) ⊕ (Int×Int))
 | (p14,p15)=>(if p15<(a1.length:Int) then(idx (a1) (p15)).bind fun x25=>(if (x25.2.1.1<0∨2100000000000000<x25.2.1.1) then some (.inr ((0,90))) else some (.inl (IntKind.i64.wrap (p14+x25.2.1.1),IntKind.i64.wrap (p15+1)))) else(ZcV p14 a0).map Sum.inr)
noncomputable def ZbD (a1:(List Tapi_Coin)) (a0:Tapi_Tx):Option (Int×Int) :=
 Ze (Zef a1 a0) (0,0)
noncomputable def Zeg (a1:(List Tapi_Coin)) (a0:Tapi_Tx):Int→Option ((Int) ⊕ (Int×Int))
 | p7=>(if p7<(a1.length:Int) then(idx (a1) (p7)).bind fun x26=>(idx (a0.2.1) (p7)).bind fun x27=>(if ¬ ((x26.1.1=x27.1.1∧x26.1.2=x27.1.2)) then some (.inr ((0,101))) else some (.inl (IntKind.i64.wrap (p7+1)))) else(ZbD a1 a0).map Sum.inr)
noncomputable def Zhl (a0:Tapi_Tx) (a1:(List Tapi_Coin)):Option (Int×Int) :=
 (ZdO a0).bind fun y1=>(if ¬ (y1=0) then some ((0,y1)) else(if ¬ ((a1.length:Int)=(a0.2.1.length:Int)) then some ((0,8)) else Ze (Zeg a1 a0) 0))
def Zrl (x:(List Int)):Prop:=x.length≤maxLen∧∀ a∈x,(0≤a∧a≤255)
end
end Go.Lc
namespace Go.Av
open Go.RowKit
open Go.Av
set_option linter.unusedVariables false
set_option linter.unusedSimpArgs false
theorem ZuH {α:Type}{enc:α→List PV}{g:α→Option (PV×List (List Cell))}{ps:List PV}(h:∀ a,enc a=ps→False):Zab enc g ps=none:=by
 rcases hx:Zab enc g ps with _ | r
 ·rfl
 ·obtain⟨a,ha,_⟩:=ZcR hx
  exact(h a ha.symm).elim
def ZpA (n:Nat) (l:List Int):Arr n:=if h:n≤l.length then⟨l.take n,by simp[h]⟩ else zA n
theorem Znn {k:IntKind}(l:List Int):(Zg k l).flatten=ints k l:=by
 induction l with
 | nil=>rfl
 | cons x l ih=>simp only[Zg,ints,List.map_cons,List.flatten_cons] at *; rw[ih]; rfl
theorem ZbE {k:IntKind}{l:List Int}{o n:Nat}(h:o+n≤l.length):List.take n (List.drop o (Zg k l).flatten)=arC k (ZpA n (l.drop o)):=by
 have h':n≤(l.drop o).length:=by simp; omega
 unfold ZpA;rw[dif_pos h',Znn];simp[arC,ints,List.map_take,List.map_drop]
@[simp high] theorem Zye {k:IntKind}{l:List Int}:(Zg k l).flatten.length=l.length:=by rw[Znn]; simp[ints]
def Arr.over {n:Nat}(a:Arr n) (l:List Int):Arr n:=⟨l.take n++a.l.drop (min l.length n),by have:=a.hl; simp; omega⟩
theorem ZoE {k:IntKind}{n:Nat}{a:Arr n}{l:List Int}:ZE (arC k a) 0 (List.take (min l.length n) (Zg k l)).flatten=arC k (a.over l):=by
 have e:(List.take (min l.length n) (Zg k l)).flatten=ints k (l.take n):=by
  rw[← Zld,Znn]
  congr 1
  rcases Nat.le_total l.length n with h | h
  ·rw[Nat.min_eq_left h,List.take_of_length_le h,List.take_of_length_le (Nat.le_refl _)]
  ·rw[Nat.min_eq_right h]
 rw[e];unfold ZE arC Arr.over;simp[ints,Nat.min_comm]
@[simp] theorem sg_u8:IntKind.u8.signed=false:=rfl
@[simp] theorem mx_u8:IntKind.u8.max=255:=rfl
@[simp] theorem sg_u16:IntKind.u16.signed=false:=rfl
@[simp] theorem mx_u16:IntKind.u16.max=65535:=rfl
@[simp] theorem sg_u32:IntKind.u32.signed=false:=rfl
@[simp] theorem mx_u32:IntKind.u32.max=4294967295:=rfl
@[simp] theorem sg_u64:IntKind.u64.signed=false:=rfl
@[simp] theorem mx_u64:IntKind.u64.max=18446744073709551615:=rfl
@[simp] theorem sg_i8:IntKind.i8.signed=true:=rfl
@[simp] theorem sg_i16:IntKind.i16.signed=true:=rfl
@[simp] theorem sg_i32:IntKind.i32.signed=true:=rfl
@[simp] theorem sg_i64:IntKind.i64.signed=true:=rfl
theorem YD {α β:Type}{enc:α→List PV}(hi:∀ a b,enc a=enc b→a=b){g:α→Option β}{R:α→β→PV×List (List Cell)}{x:α}{y:β}(h:g x=some y):Zab enc (fun x=>(g x).map (R x)) (enc x)=some (R x y):=by
 rw[Zxp hi,h]; rfl
theorem mkI {P:Program}{tt:TT}{T:Tab}{G:Glob}{α β:Type}{enc:α→List PV}{g:α→Option β}{R:α→β→PV×List (List Cell)}(hm:P.follows .mixedOrders=true) (htt:∀ t i,tt t=some i→Z0 P t=some i) (hT:∀ f F,T f=some F→Zd9 P G (f % 1000000) F){f:FuncId}{fn:Func}{c:Code}
  (hf:P.funcs[f]? = some fn) (hb:fn.body=some c) (hname:(fn.name == "runtime.NumGoroutine")=false) (w:∀ x y,g x=some y→∃ kp fl n,ZN tt T G kp fl n fn (enc x)=some (R x y)):ZR P G f (Zab enc fun x=>(g x).map (R x)) :=
 ZnT hm htt hT hf hb hname fun ps r ho hF=>by
  obtain⟨x,rfl,h⟩:=ZcR hF;obtain⟨y,hy,rfl⟩:=Option.map_eq_some_iff.1 h;exact w x y hy
@[simp] theorem ba_beq (a b:ByteArray):(a == b)=true↔a=b:=by
 obtain⟨a⟩:=a;obtain⟨b⟩:=b;have:((⟨a⟩:ByteArray) == ⟨b⟩)=(a == b):=rfl;rw[this];simp
@[simp] theorem ZAr {k:IntKind}{l:List Int}:Zg k l.tail=(Zg k l).tail:=by simp[Zg]
theorem ZtC {P:Program}{G:Glob}{f:FuncId}{fn:Func}{c:Code}{F:List PV→Option (PV×List (List Cell))}(hf:P.funcs[f]? = some fn) (hb:fn.body=some c) (hname:(fn.name == "runtime.NumGoroutine")=false) (hF:∀ ps,F ps=none):ZR P G f F :=
 ⟨⟨fn,hf,by rw[hb]; rfl,hname⟩,fun S w ks hs ps vs r outs _ _ _ _ h=>by rw[hF] at h; cases h⟩
theorem ZtD {α β:Type}{enc:α→List PV}{g:α→Option β}{R:α→β→PV×List (List Cell)}(h:∀ x,g x=none):∀ ps,Zab enc (fun x=>(g x).map (R x)) ps=none:=by
 intro ps;unfold Zab;split
 ·simp only[h]; rfl
 ·rfl
noncomputable def ZpB {α:Type}(g:Nat→Option α):Option α:=by
 classical
 exact if h:∃ n,(g n).isSome=true then g (Classical.choose h) else none
theorem ZuI {α:Type}{g:Nat→Option α}{y:α}(h:ZpB g=some y):∃ n,g n=some y:=by
 unfold ZpB at h;split at h
 ·exact⟨_,h⟩
 ·cases h
theorem Zxu {α:Type}{g:Nat→Option α}{y:α}(h:∀ n x,g n=some x→x=y) (hn:∃ n,g n=some y):ZpB g=some y:=by
 obtain⟨n,hn⟩:=hn;have hx:∃ n,(g n).isSome=true:=⟨n,by rw[hn]; rfl⟩
 unfold ZpB;rw[dif_pos hx];obtain⟨x,hx'⟩:=Option.isSome_iff_exists.1 (Classical.choose_spec hx);rw[hx',h _ _ hx']
theorem Zwe {P:Program}{G:Glob}{f:FuncId}{α β:Type}{enc:α→List PV}{g:Nat→α→Option β}{R:α→β→PV×List (List Cell)}(h:∀ n,ZR P G f (Zab enc fun x=>(g n x).map (R x))):ZR P G f (Zab enc fun x=>(ZpB fun n=>g n x).map (R x)):=by
 refine⟨(h 0).1,fun S w ks hs ps vs r outs a1 a2 a3 a4 hF=>?_⟩;unfold Zab at hF;split at hF
 ·rename_i he
  obtain⟨y,hy,hr⟩:=Option.map_eq_some_iff.1 hF;obtain⟨n,hn⟩:=ZuI hy;refine(h n).2 S w ks hs ps vs r outs a1 a2 a3 a4 ?_;unfold Zab;rw[dif_pos he];simp only[hn];simpa using hr
 ·cases hF
theorem pq:(∀ {id:Nat}{Q:AE→ASt→Prop}{s:ASt}{i:Nat},ZkK id Q (.exit i) s=if i=id then Q .normal s else Q (.exit i) s)∧(∀ {id:Nat}{Q:AE→ASt→Prop}{s:ASt},ZkK id Q .normal s=Q .normal s)∧(∀ {id:Nat}{Q:AE→ASt→Prop}{s:ASt},ZkK id Q .ret s=Q .ret s) ∧
  (∀ {K:ASt→Prop}{Q:AE→ASt→Prop}{s:ASt},ZiT K Q .normal s=K s)∧(∀ {K:ASt→Prop}{Q:AE→ASt→Prop}{s:ASt}{i:Nat},ZiT K Q (.exit i) s=Q (.exit i) s)∧(∀ {K:ASt→Prop}{Q:AE→ASt→Prop}{s:ASt},ZiT K Q .ret s=Q .ret s) ∧
  (∀ {σ ρ:Type}{kq:Kp}{H:σ→ASt}{Q:AE→ASt→Prop}{r:ρ}{s:σ},QL kq H Q r (.inl s)=ZiT (fun st=>Zcl kq st=H s) fun _ _=>False)∧(∀ {σ ρ:Type}{kq:Kp}{H:σ→ASt}{Q:AE→ASt→Prop}{r r':ρ},QL kq H Q r (.inr r')=ZiT (fun _=>False) fun e st=>r'=r→Q e st) ∧
  (∀ {a b:Prop},(if True then a else b)=a)∧(∀ {a b:Prop},(if False then a else b)=b) :=
 ⟨rfl,rfl,rfl,rfl,rfl,rfl,rfl,rfl,by simp,by simp⟩
theorem nf:(∀ {k:IntKind},Zg k []=[])∧(∀ {k:IntKind}{x:Int}{l:List Int},Zg k (x :: l)=[.v (.int k x)] :: Zg k l)∧(∀ {k:IntKind}{l m:List Int},Zg k (l++m)=Zg k l++Zg k m)∧(∀ {k:IntKind}{l:List Int}{n:Nat},Zg k (l.take n)=(Zg k l).take n) ∧
  (∀ {k:IntKind}{l:List Int}{n:Nat},Zg k (l.drop n)=(Zg k l).drop n)∧(∀ {k:IntKind}{l:List Int}{n:Nat}{x:Int},Zg k (l.set n x)=(Zg k l).set n [.v (.int k x)])∧(∀ {k:IntKind}{n:Nat}{x:Int},Zg k (List.replicate n x)=List.replicate n [.v (.int k x)]) ∧
  (∀ {α β:Type}{f:α→β},List.map f []=[])∧(∀ {α β:Type}{f:α→β}{a:α}{l:List α},List.map f (a :: l)=f a :: List.map f l)∧(∀ {α β:Type}{f:α→β}{l m:List α},List.map f (l++m)=List.map f l++List.map f m)∧(∀ {α β:Type}{f:α→β}{l:List α}{n:Nat},List.map f (l.take n)=(List.map f l).take n) ∧
  (∀ {α β:Type}{f:α→β}{l:List α}{n:Nat},List.map f (l.drop n)=(List.map f l).drop n)∧(∀ {α β:Type}{f:α→β}{l:List α}{n:Nat}{x:α},List.map f (l.set n x)=(List.map f l).set n (f x))∧(∀ {α β:Type}{f:α→β}{n:Nat}{x:α},List.map f (List.replicate n x)=List.replicate n (f x)) ∧
  (∀ {α:Type}{l:List α},[]++l=l)∧(∀ {α:Type}{x:α}{l m:List α},x :: l++m=x :: (l++m))∧(∀ {α:Type}{l m n:List α},l++m++n=l++(m++n)) :=
 ⟨Znm,ZmJ,YE,Zld,Zrk,Zt,Zp3,List.map_nil,List.map_cons,List.map_append,List.map_take,List.map_drop,List.map_set,List.map_replicate,List.nil_append _,List.cons_append,List.append_assoc _ _ _⟩
theorem bs {α β:Type}{o:Option α}{f:α→Option β}{y:β}(h:o.bind f=some y):∃ x,o=some x∧f x=some y:=Option.bind_eq_some_iff.1 h
theorem ms {α β:Type}{o:Option α}{f:α→β}{y:β}(h:o.map f=some y):∃ x,o=some x∧f x=y:=Option.map_eq_some_iff.1 h
theorem ZtE {e n:Nat}{L:List (List Cell)}(h:∀ l∈L,l.length=e) (hn:L.length=n):Zap e n L.flatten=L:=by
 subst hn;exact Zkb h
theorem ZK {k:IntKind}{n:Nat}{l:List Int}(h:l.length=n):Zap 1 n (Zg k l).flatten=Zg k l :=
 ZtE (fun x hx=>intsR_all x hx) (by simpa[Zg] using h)
theorem Zrm {P:Program}{G:Glob}{f:FuncId}{fn:Func}{k k':IntKind}{g:Int→Int}{ok:Int→Prop}(hfn:P.funcs[f]? = some fn) (hb:fn.body.isNone=false) (hnm:(fn.name == "runtime.NumGoroutine")=false)
  (F:List PV→Option (PV×List (List Cell))) (hF:∀ ps r,F ps=some r→∃ x,ok x∧ps=[.one (.v (.int k x))]∧r=(.one (.v (.int k' (g x))),[]))
  (h:∀ x w,ok x→Calls P f #[.int k x] w fun e w'=>e = .returned (.int k' (g x))∧w'=w):ZR P G f F:=by
 refine⟨⟨fn,hfn,hb,hnm⟩,?_⟩;intro S w ks hh ps vs r outs hg hs ha hk hFr;obtain⟨x,hx,rfl,hr⟩:=hF ps _ hFr;injection hr with hr1 hr2;subst hr1 hr2;cases ha with
 | one ha1 ha =>
  cases ha
  cases ha1 with
  | pure ha1 =>
   cases ha1 with
   | v _ h1 h2 =>
    refine(h x w hx).mono ?_;rintro ee w' ⟨rfl,rfl⟩
    exact⟨_,S,_,_,rfl,.base (.one (.pure (.v _ (by rfl) (by simp)))),.skip (by simp) (by simp) .nil,by simp[Zq],XE.refl _ _ _,fun _ _ h=>h,fun _ _ h=>.inl h,hs⟩
theorem Zp4 {P:Program}{G:Glob}{f:FuncId}{k:IntKind}{p q:Nat→Nat→Nat→Nat}{ok:Nat→Nat→Nat→Prop}{F:List PV→Option (PV×List (List Cell))}
  (hF:∀ ps r,F ps=some r→∃ x y b:Nat,ok x y b∧ps=[.one (.v (.int k x)),.one (.v (.int k y)),.one (.v (.int k b))]∧r=(.tup [.one (.v (.int k (p x y b))),.one (.v (.int k (q x y b)))],[]))
  (h:∀ (x y b:Nat) (w:World),ok x y b→(callFunc f #[.int k x,.int k y,.int k b]).run P w = .ok (.value (.tuple #[.int k (p x y b:Nat),.int k (q x y b:Nat)])) w):ZqI P G f F:=by
 intro S w ks hh ps vs r outs hg hs ha hk hFr;obtain⟨x,y,b,hx,rfl,hr⟩:=hF ps _ hFr;injection hr with hr1 hr2;subst hr1 hr2;cases ha with
 | one a1 ha=>cases ha with
  | one a2 ha=>cases ha with
   | one a3 ha =>
    cases ha
    cases a1 with
    | pure a1=>cases a2 with
     | pure a2=>cases a3 with
      | pure a3 =>
       cases a1 with
       | v _ _ _=>cases a2 with
        | v _ _ _=>cases a3 with
         | v _ _ _ =>
          exact⟨_,S,_,_,h x y b w hx,.tup (.cons (.one (.pure (.v _ (by rfl) (by simp)))) (.cons (.one (.pure (.v _ (by rfl) (by simp)))) .nil)),.skip (by simp) (by simp) (.skip (by simp) (by simp) (.skip (by simp) (by simp) .nil)),by simp[Zq],XE.refl _ _ _,fun _ _ h=>h,fun _ _ h=>.inl h,hs⟩
@[simp] theorem ZzA {L:List (List Cell)}:Yd L.flatten=ZH L:=List.all_flatten
@[simp] theorem Zze {L:List (List Cell)}:hasSlL L.flatten=L.any hasSlL:=List.any_flatten
@[simp] theorem Zzf {k:IntKind}{l:List Int}:(Zg k l).any hasSlL=false:=by simp[Zg,hasSlL,Cell.hasSl,List.any_map]
def clr {α:Type}(l:List α) (i n:Nat) (z:α):List α:=l.take i++(List.replicate (min n (l.length-i)) z++l.drop (i+n))
@[simp] theorem ZzB {α:Type}{l:List α}{i n:Nat}{z:α}:(clr l i n z).length=l.length:=by simp[clr]; omega
@[simp] theorem Zwf {α:Type}{l:List α}{i n:Nat}{z:α}:(clr l i n z).take i=l.take i:=by
 unfold clr;rcases Nat.le_total i l.length with h | h
 ·rw[List.take_append_of_le_length (by simp[h]),List.take_take,Nat.min_self]
 ·rw[List.take_of_length_le h,show min n (l.length-i)=0 by omega,List.drop_of_length_le (by omega)]
  simp[List.take_of_length_le h]
@[simp] theorem Zyf {k:IntKind}{l:List Int}{i n:Nat}{z:Int}:List.take i (Zg k (clr l i n z))=List.take i (Zg k l):=by
 rw[← Zld,Zwf,Zld]
end Go.Av
namespace Go.Lc
open Go.RowKit
open Go.Av
set_option linter.unusedVariables false
set_option linter.unusedSimpArgs false
section
set_option maxRecDepth 100000
abbrev Tapi_Entry:=Tapi_Tx×Int
def shaInitial:Arr 8:=⟨[1779033703,3144134277,1013904242,2773480762,1359893119,2600822924,528734635,1541459225],rfl⟩
def shaK:Arr 64:=⟨[1116352408,1899447441,3049323471,3921009573,961987163,1508970993,2453635748,2870763221,3624381080,310598401,607225278,1426881987,1925078388,2162078206,2614888103,3248222580,3835390401,4022224774,264347078,604807628,770255983,1249150122,1555081692,1996064986,2554220882,2821834349,2952996808,3210313671,3336571891,3584528711,113926993,338241895,666307205,773529912,1294757372,1396182291,1695183700,1986661051,2177026350,2456956037,2730485921,2820302411,3259730800,3345764771,3516065817,3600352804,4094571909,275423344,430227734,506948616,659060556,883997877,958139571,1322822218,1537002063,1747873779,1955562222,2024104815,2227730452,2361852424,2428436474,2756734187,3204031479,3329325298],rfl⟩
noncomputable def Zdf (a0:Tapi_Tx) (a1:Bool):Option ((List Int)×Int) :=
 (Zil a0).bind fun y1=>(if ¬ (y1=true) then some ((([]:(List Int)),4)) else(ZfG a0 a1).bind fun y2=>some ((y2,0)))
noncomputable def ZlN (p8:(List Int)):Option (List Int) :=
 some (p8)
noncomputable def ZhX (a0:(List (List Int))):(Int×(List Int))→Option ((Int×(List Int)) ⊕ ((List Int)))
 | (p7,p8)=>(if p7<(a0.length:Int) then(idx (a0) (p7)).bind fun x11=>(chk (p8.length+x11.length≤140737488355328)).bind fun _=>some (.inl (IntKind.i64.wrap (p7+1),p8++x11)) else(ZlN p8).map Sum.inr)
noncomputable def Zjq (a0:(List (List Int))):Option ((List Int)) :=
 Ze (ZhX a0) (0,[])
noncomputable def ZlO (p10:(List Int)):Option (List Int) :=
 some (p10)
noncomputable def ZhY (a0:Int):(Int×(List Int))→Option ((Int×(List Int)) ⊕ ((List Int)))
 | (p9,p10)=>(if p9<8 then(chk (¬ (IntKind.i64.wrap (56-(IntKind.i64.wrap (8 * p9)))<0))).bind fun _=>(chk (p10.length+1≤140737488355328)).bind fun _=>some (.inl (IntKind.i64.wrap (p9+1),p10++[IntKind.u8.wrap ((IntKind.u64.wrap (8 * a0)).fdiv (2 ^ (min (IntKind.i64.wrap (56-(IntKind.i64.wrap (8 * p9)))).toNat 64)))])) else(ZlO p10).map Sum.inr)
noncomputable def Zjr (a0:Int):Option ((List Int)) :=
 (chk (0≤IntKind.u64.wrap (1+((IntKind.u64.wrap (64-((IntKind.u64.wrap (a0+9)).tmod 64))).tmod 64))∧IntKind.u64.wrap (1+((IntKind.u64.wrap (64-((IntKind.u64.wrap (a0+9)).tmod 64))).tmod 64))≤IntKind.u64.wrap (9+((IntKind.u64.wrap (64-((IntKind.u64.wrap (a0+9)).tmod 64))).tmod 64))∧IntKind.u64.wrap (9+((IntKind.u64.wrap (64-((IntKind.u64.wrap (a0+9)).tmod 64))).tmod 64))≤140737488355328)).bind fun _=>(chk (0<(List.replicate ((IntKind.u64.wrap (1+((IntKind.u64.wrap (64-((IntKind.u64.wrap (a0+9)).tmod 64))).tmod 64))).toNat) 0).length)).bind fun _=>Ze (ZhY a0) (0,(List.replicate ((IntKind.u64.wrap (1+((IntKind.u64.wrap (64-((IntKind.u64.wrap (a0+9)).tmod 64))).tmod 64))).toNat) 0).set 0 128)
noncomputable def YT (a0:Int) (a1:Int):Option (Int) :=
 (chk (¬ (bits .and .u64 (IntKind.u64.wrap (a1)) 31<0))).bind fun _=>(chk (¬ (IntKind.u64.wrap (32-(bits .and .u64 (IntKind.u64.wrap (a1)) 31))<0))).bind fun _=>some (bits .or .u32 (IntKind.u32.wrap (a0 * (2 ^ (min (bits .and .u64 (IntKind.u64.wrap (a1)) 31).toNat 32)))) ((a0).fdiv (2 ^ (min (IntKind.u64.wrap (32-(bits .and .u64 (IntKind.u64.wrap (a1)) 31))).toNat 32))))
noncomputable def XX (a0:Int) (a1:Int):Option (Int) :=
 (YT a0 (IntKind.i64.wrap (-a1))).bind fun y1=>some (y1)
noncomputable def ZdP (p52:(Arr 64)):Option (Arr 64) :=
 some (p52)
noncomputable def Lsha_schedule_s2:(Int×(Arr 64))→Option ((Int×(Arr 64)) ⊕ ((Arr 64)))
 | (p51,p52)=>(if p51<64 then(inA (64) (IntKind.i64.wrap (p51-15))).bind fun j62=>(XX (p52.at j62) 7).bind fun y63=>(XX (p52.at j62) 18).bind fun y64=>(inA (64) (IntKind.i64.wrap (p51-2))).bind fun j65=>(XX (p52.at j65) 17).bind fun y66=>(XX (p52.at j65) 19).bind fun y67=>(inA (64) (IntKind.i64.wrap (p51-16))).bind fun j68=>(inA (64) (IntKind.i64.wrap (p51-7))).bind fun j69=>(inA (64) (p51)).bind fun j70=>some (.inl (IntKind.i64.wrap (p51+1),p52.put j70 (IntKind.u32.wrap ((IntKind.u32.wrap ((IntKind.u32.wrap ((p52.at j68)+(bits .xor .u32 (bits .xor .u32 y63 y64) ((p52.at j62).fdiv 8))))+(p52.at j69)))+(bits .xor .u32 (bits .xor .u32 y66 y67) ((p52.at j65).fdiv 1024)))))) else(ZdP p52).map Sum.inr)
noncomputable def ZaO (p21:(Arr 64)):Option (Arr 64) :=
 Ze (Lsha_schedule_s2) (16,p21)
noncomputable def ZbX (p20:Int) (p78:(Arr 64)):Option ((Int×(Arr 64)) ⊕ ((Arr 64))) :=
 some (.inl (IntKind.i64.wrap (p20+1),p78))
noncomputable def ZaP (p20:Int) (a0:(Arr 64)):(Int×(Arr 64))→Option ((Int×(Arr 64)) ⊕ ((Int×(Arr 64)) ⊕ ((Arr 64))))
 | (p77,p78)=>(if p77<4 then(inA (64) (p20)).bind fun j81=>(inA (64) (IntKind.i64.wrap ((IntKind.i64.wrap (4 * p20))+p77))).bind fun j82=>some (.inl (IntKind.i64.wrap (p77+1),p78.put j81 (bits .or .u32 (IntKind.u32.wrap ((p78.at j81) * 256)) (IntKind.u32.wrap (a0.at j82))))) else(ZbX p20 p78).map Sum.inr)
noncomputable def ZdQ (a0:(Arr 64)):(Int×(Arr 64))→Option ((Int×(Arr 64)) ⊕ ((Arr 64)))
 | (p20,p21)=>(if p20<16 then Ze (ZaP p20 a0) (0,p21) else(ZaO p21).map Sum.inr)
noncomputable def Zeh (a0:(Arr 64)):Option ((Arr 64)) :=
 Ze (ZdQ a0) (0,zA 64)
noncomputable def Zim (a0:(Arr 8)) (p24:Int) (p25:Int) (p26:Int) (p27:Int) (p28:Int) (p29:Int) (p30:Int) (p31:Int):Option (Arr 8) :=
 some (((((((((zA 8).put 0 (IntKind.u32.wrap ((a0.at 0)+p24))).put 1 (IntKind.u32.wrap ((a0.at 1)+p25))).put 2 (IntKind.u32.wrap ((a0.at 2)+p26))).put 3 (IntKind.u32.wrap ((a0.at 3)+p27))).put 4 (IntKind.u32.wrap ((a0.at 4)+p28))).put 5 (IntKind.u32.wrap ((a0.at 5)+p29))).put 6 (IntKind.u32.wrap ((a0.at 6)+p30))).put 7 (IntKind.u32.wrap ((a0.at 7)+p31)))
noncomputable def ZdR (y1:((Arr 64))) (a0:(Arr 8)):(Int×Int×Int×Int×Int×Int×Int×Int×Int)→Option ((Int×Int×Int×Int×Int×Int×Int×Int×Int) ⊕ ((Arr 8)))
 | (p24,p25,p26,p27,p28,p29,p30,p31,p32)=>(if p32<64 then(XX p28 6).bind fun y40=>(XX p28 11).bind fun y41=>(XX p28 25).bind fun y42=>(inA (64) (p32)).bind fun j43=>(XX p24 2).bind fun y44=>(XX p24 13).bind fun y45=>(XX p24 22).bind fun y46=>some (.inl (IntKind.u32.wrap ((IntKind.u32.wrap ((IntKind.u32.wrap ((IntKind.u32.wrap ((IntKind.u32.wrap (p31+(bits .xor .u32 (bits .xor .u32 y40 y41) y42)))+(bits .xor .u32 (bits .and .u32 p28 p29) (bits .and .u32 (bits .xor .u32 4294967295 p28) p30))))+(shaK.at j43)))+(y1.at j43)))+(IntKind.u32.wrap ((bits .xor .u32 (bits .xor .u32 y44 y45) y46)+(bits .xor .u32 (bits .xor .u32 (bits .and .u32 p24 p25) (bits .and .u32 p24 p26)) (bits .and .u32 p25 p26))))),p24,p25,p26,IntKind.u32.wrap (p27+(IntKind.u32.wrap ((IntKind.u32.wrap ((IntKind.u32.wrap ((IntKind.u32.wrap (p31+(bits .xor .u32 (bits .xor .u32 y40 y41) y42)))+(bits .xor .u32 (bits .and .u32 p28 p29) (bits .and .u32 (bits .xor .u32 4294967295 p28) p30))))+(shaK.at j43)))+(y1.at j43)))),p28,p29,p30,IntKind.i64.wrap (p32+1))) else(Zim a0 p24 p25 p26 p27 p28 p29 p30 p31).map Sum.inr)
noncomputable def Zei (a0:(Arr 8)) (a1:(Arr 64)):Option ((Arr 8)) :=
 (Zeh a1).bind fun y1=>Ze (ZdR y1 a0) (a0.at 0,a0.at 1,a0.at 2,a0.at 3,a0.at 4,a0.at 5,a0.at 6,a0.at 7,0)
noncomputable def ZjY (p24:(Arr 32)):Option (Arr 32) :=
 some (p24)
noncomputable def ZhZ (p12:(Arr 8)):(Int×(Arr 32))→Option ((Int×(Arr 32)) ⊕ ((Arr 32)))
 | (p23,p24)=>(if p23<32 then(inA (8) (IntKind.i64.wrap ((p23).tdiv 4))).bind fun j28=>(chk (¬ (IntKind.i64.wrap (24-(IntKind.i64.wrap (((p23).tmod 4) * 8)))<0))).bind fun _=>(inA (32) (p23)).bind fun j30=>some (.inl (IntKind.i64.wrap (p23+1),p24.put j30 (IntKind.u8.wrap ((p12.at j28).fdiv (2 ^ (min (IntKind.i64.wrap (24-(IntKind.i64.wrap (((p23).tmod 4) * 8)))).toNat 32)))))) else(ZjY p24).map Sum.inr)
noncomputable def Zgk (p12:(Arr 8)):Option (Arr 32) :=
 Ze (ZhZ p12) (0,zA 32)
noncomputable def Zh0 (y2:((List Int))):(Int×(Arr 8))→Option ((Int×(Arr 8)) ⊕ ((Arr 32)))
 | (p11,p12)=>(if p11<IntKind.i64.wrap (((y2.length:Int)).tdiv 64) then(chk (0≤IntKind.i64.wrap (64 * p11)∧IntKind.i64.wrap (64 * p11)≤(y2.length:Int))).bind fun _=>(chk (64≤(y2.length-(IntKind.i64.wrap (64 * p11)).toNat))).bind fun _=>(Zei p12 (ZpA 64 ((y2).drop ((IntKind.i64.wrap (64 * p11)).toNat)))).bind fun y33=>some (.inl (IntKind.i64.wrap (p11+1),y33)) else(Zgk p12).map Sum.inr)
noncomputable def ZgX (a0:(List Int)):Option ((Arr 32)) :=
 (Zjr (IntKind.u64.wrap ((a0.length:Int)))).bind fun y1=>(Zjq [a0,y1]).bind fun y2=>Ze (Zh0 y2) (0,shaInitial)
noncomputable def Zb9 (a0:(List Int)):Option ((Arr 32)) :=
 (ZgX a0).bind fun y1=>(ZgX y1.l).bind fun y2=>some (y2)
noncomputable def ZfI (a0:Tapi_Tx) (a1:Bool):Option ((Arr 32)) :=
 (Zdf a0 a1).bind fun y1=>(if ¬ (y1.2=0) then some (zA 32) else(Zb9 y1.1).bind fun y2=>some (y2))
noncomputable def Zl6 (a0:Tapi_Tx):Option ((Arr 32)) :=
 (ZfI a0 false).bind fun y1=>some (y1)
end
section
set_option maxRecDepth 100000
noncomputable def Zib (p13:(List Int)):Option (List Int) :=
 some (p13)
noncomputable def Zej (a0:Int):(Int×(List Int))→Option ((Int×(List Int)) ⊕ ((List Int)))
 | (p12,p13)=>(if 0≤p12 then(chk (¬ (IntKind.i64.wrap (8 * p12)<0))).bind fun _=>(chk (p13.length+1≤140737488355328)).bind fun _=>some (.inl (IntKind.i64.wrap (p12-1),p13++[IntKind.u8.wrap ((IntKind.u64.wrap (8 * a0)).fdiv (2 ^ (min (IntKind.i64.wrap (8 * p12)).toNat 64)))])) else(Zib p13).map Sum.inr)
noncomputable def Zf2 (a0:Int) (p4:(List Int)):Option (List Int) :=
 Ze (Zej a0) (7,p4)
noncomputable def Zf3 (a0:Int):(List Int)→Option (((List Int)) ⊕ ((List Int)))
 | p4=>(if ¬ ((IntKind.u64.wrap ((IntKind.u64.wrap (a0+(IntKind.u64.wrap ((p4.length:Int)))))+8)).tmod 64=0) then(chk (p4.length+1≤140737488355328)).bind fun _=>some (.inl (p4++[0])) else(Zf2 a0 p4).map Sum.inr)
noncomputable def Zhm (a0:Int):Option ((List Int)) :=
 Ze (Zf3 a0) [128]
noncomputable def Lref03_Initial:Option ((Arr 8)) :=
 some (((((((((zA 8).put 0 1779033703).put 1 3144134277).put 2 1013904242).put 3 2773480762).put 4 1359893119).put 5 2600822924).put 6 528734635).put 7 1541459225)
noncomputable def Y0 (a0:Int) (a1:Int):Option (Int) :=
 (YT a0 (IntKind.i64.wrap (-a1))).bind fun y1=>some (y1)
noncomputable def Zex (p39:(Arr 64)):Option (Arr 64) :=
 some (p39)
noncomputable def Lref03_schedule_s2:(Int×(Arr 64))→Option ((Int×(Arr 64)) ⊕ ((Arr 64)))
 | (p38,p39)=>(if p38<64 then(inA (64) (IntKind.i64.wrap (p38-15))).bind fun j49=>(Y0 (p39.at j49) 7).bind fun y50=>(Y0 (p39.at j49) 18).bind fun y51=>(inA (64) (IntKind.i64.wrap (p38-2))).bind fun j52=>(Y0 (p39.at j52) 17).bind fun y53=>(Y0 (p39.at j52) 19).bind fun y54=>(inA (64) (IntKind.i64.wrap (p38-16))).bind fun j55=>(inA (64) (IntKind.i64.wrap (p38-7))).bind fun j56=>(inA (64) (p38)).bind fun j57=>some (.inl (IntKind.i64.wrap (p38+1),p39.put j57 (IntKind.u32.wrap ((IntKind.u32.wrap ((IntKind.u32.wrap ((p39.at j55)+(bits .xor .u32 (bits .xor .u32 y50 y51) ((p39.at j49).fdiv 8))))+(p39.at j56)))+(bits .xor .u32 (bits .xor .u32 y53 y54) ((p39.at j52).fdiv 1024)))))) else(Zex p39).map Sum.inr)
noncomputable def ZaY (p13:(Arr 64)):Option (Arr 64) :=
 Ze (Lref03_schedule_s2) (16,p13)
noncomputable def Zcq (a0:(Arr 64)):(Int×(Arr 64))→Option ((Int×(Arr 64)) ⊕ ((Arr 64)))
 | (p12,p13)=>(if p12<16 then(inA (64) (IntKind.i64.wrap (4 * p12))).bind fun j58=>(inA (64) (IntKind.i64.wrap ((IntKind.i64.wrap (4 * p12))+1))).bind fun j59=>(inA (64) (IntKind.i64.wrap ((IntKind.i64.wrap (4 * p12))+2))).bind fun j60=>(inA (64) (IntKind.i64.wrap ((IntKind.i64.wrap (4 * p12))+3))).bind fun j61=>(inA (64) (p12)).bind fun j62=>some (.inl (IntKind.i64.wrap (p12+1),p13.put j62 (bits .or .u32 (bits .or .u32 (bits .or .u32 (IntKind.u32.wrap ((IntKind.u32.wrap (a0.at j58)) * 16777216)) (IntKind.u32.wrap ((IntKind.u32.wrap (a0.at j59)) * 65536))) (IntKind.u32.wrap ((IntKind.u32.wrap (a0.at j60)) * 256))) (IntKind.u32.wrap (a0.at j61))))) else(ZaY p13).map Sum.inr)
noncomputable def ZcF (a0:(Arr 64)):Option ((Arr 64)) :=
 Ze (Zcq a0) (0,zA 64)
noncomputable def Lref03_constants:Option ((Arr 64)) :=
 some (((((((((((((((((((((((((((((((((((((((((((((((((((((((((((((((((zA 64).put 0 1116352408).put 1 1899447441).put 2 3049323471).put 3 3921009573).put 4 961987163).put 5 1508970993).put 6 2453635748).put 7 2870763221).put 8 3624381080).put 9 310598401).put 10 607225278).put 11 1426881987).put 12 1925078388).put 13 2162078206).put 14 2614888103).put 15 3248222580).put 16 3835390401).put 17 4022224774).put 18 264347078).put 19 604807628).put 20 770255983).put 21 1249150122).put 22 1555081692).put 23 1996064986).put 24 2554220882).put 25 2821834349).put 26 2952996808).put 27 3210313671).put 28 3336571891).put 29 3584528711).put 30 113926993).put 31 338241895).put 32 666307205).put 33 773529912).put 34 1294757372).put 35 1396182291).put 36 1695183700).put 37 1986661051).put 38 2177026350).put 39 2456956037).put 40 2730485921).put 41 2820302411).put 42 3259730800).put 43 3345764771).put 44 3516065817).put 45 3600352804).put 46 4094571909).put 47 275423344).put 48 430227734).put 49 506948616).put 50 659060556).put 51 883997877).put 52 958139571).put 53 1322822218).put 54 1537002063).put 55 1747873779).put 56 1955562222).put 57 2024104815).put 58 2227730452).put 59 2361852424).put 60 2428436474).put 61 2756734187).put 62 3204031479).put 63 3329325298)
noncomputable def Zj7 (a0:(Arr 8)) (p25:Int) (p26:Int) (p27:Int) (p28:Int) (p29:Int) (p30:Int) (p31:Int) (p32:Int):Option (Arr 8) :=
 some (((((((((zA 8).put 0 (IntKind.u32.wrap ((a0.at 0)+p25))).put 1 (IntKind.u32.wrap ((a0.at 1)+p26))).put 2 (IntKind.u32.wrap ((a0.at 2)+p27))).put 3 (IntKind.u32.wrap ((a0.at 3)+p28))).put 4 (IntKind.u32.wrap ((a0.at 4)+p29))).put 5 (IntKind.u32.wrap ((a0.at 5)+p30))).put 6 (IntKind.u32.wrap ((a0.at 6)+p31))).put 7 (IntKind.u32.wrap ((a0.at 7)+p32)))
noncomputable def Zcr (y2:((Arr 64))) (y1:((Arr 64))) (a0:(Arr 8)):(Int×Int×Int×Int×Int×Int×Int×Int×Int)→Option ((Int×Int×Int×Int×Int×Int×Int×Int×Int) ⊕ ((Arr 8)))
 | (p25,p26,p27,p28,p29,p30,p31,p32,p33)=>(if p33<64 then(Y0 p29 6).bind fun y41=>(Y0 p29 11).bind fun y42=>(Y0 p29 25).bind fun y43=>(inA (64) (p33)).bind fun j44=>(Y0 p25 2).bind fun y45=>(Y0 p25 13).bind fun y46=>(Y0 p25 22).bind fun y47=>some (.inl (IntKind.u32.wrap ((IntKind.u32.wrap ((IntKind.u32.wrap ((IntKind.u32.wrap ((IntKind.u32.wrap (p32+(bits .xor .u32 (bits .xor .u32 y41 y42) y43)))+(bits .xor .u32 (bits .and .u32 p29 p30) (bits .and .u32 (bits .xor .u32 4294967295 p29) p31))))+(y2.at j44)))+(y1.at j44)))+(IntKind.u32.wrap ((bits .xor .u32 (bits .xor .u32 y45 y46) y47)+(bits .xor .u32 (bits .xor .u32 (bits .and .u32 p25 p26) (bits .and .u32 p25 p27)) (bits .and .u32 p26 p27))))),p25,p26,p27,IntKind.u32.wrap (p28+(IntKind.u32.wrap ((IntKind.u32.wrap ((IntKind.u32.wrap ((IntKind.u32.wrap (p32+(bits .xor .u32 (bits .xor .u32 y41 y42) y43)))+(bits .xor .u32 (bits .and .u32 p29 p30) (bits .and .u32 (bits .xor .u32 4294967295 p29) p31))))+(y2.at j44)))+(y1.at j44)))),p29,p30,p31,IntKind.i64.wrap (p33+1))) else(Zj7 a0 p25 p26 p27 p28 p29 p30 p31 p32).map Sum.inr)
noncomputable def XI (a0:(Arr 8)) (a1:(Arr 64)):Option ((Arr 8)) :=
 (ZcF a1).bind fun y1=>(Lref03_constants).bind fun y2=>Ze (Zcr y2 y1 a0) (a0.at 0,a0.at 1,a0.at 2,a0.at 3,a0.at 4,a0.at 5,a0.at 6,a0.at 7,0)
noncomputable def Zm3 (p27:(Arr 32)):Option (Arr 32) :=
 some (p27)
noncomputable def Zf4 (p12:(Arr 8)):(Int×(Arr 32))→Option ((Int×(Arr 32)) ⊕ ((Arr 32)))
 | (p26,p27)=>(if p26<8 then(inA (8) (p26)).bind fun j33=>(inA (32) (IntKind.i64.wrap (4 * p26))).bind fun j34=>(inA (32) (IntKind.i64.wrap ((IntKind.i64.wrap (4 * p26))+1))).bind fun j35=>(inA (32) (IntKind.i64.wrap ((IntKind.i64.wrap (4 * p26))+2))).bind fun j36=>(inA (32) (IntKind.i64.wrap ((IntKind.i64.wrap (4 * p26))+3))).bind fun j37=>some (.inl (IntKind.i64.wrap (p26+1),(((p27.put j34 (IntKind.u8.wrap ((p12.at j33).fdiv 16777216))).put j35 (IntKind.u8.wrap ((p12.at j33).fdiv 65536))).put j36 (IntKind.u8.wrap ((p12.at j33).fdiv 256))).put j37 (IntKind.u8.wrap (p12.at j33)))) else(Zm3 p27).map Sum.inr)
noncomputable def Zic (p12:(Arr 8)):Option (Arr 32) :=
 Ze (Zf4 p12) (0,zA 32)
noncomputable def Zf5 (a0:(List Int)) (y2:((List Int))):(Int×(Arr 8))→Option ((Int×(Arr 8)) ⊕ ((Arr 32)))
 | (p11,p12)=>(if IntKind.i64.wrap (p11+64)≤(a0.length+y2.length:Int) then(chk (0≤p11∧p11≤((a0++y2).length:Int))).bind fun _=>(XI p12 ((zA 64).over ((a0++y2).drop (p11).toNat))).bind fun y39=>some (.inl (IntKind.i64.wrap (p11+64),y39)) else(Zic p12).map Sum.inr)
noncomputable def Y9 (a0:(List Int)):Option ((Arr 32)) :=
 (chk (a0.length≤140737488355328)).bind fun _=>(Zhm (IntKind.u64.wrap ((a0.length:Int)))).bind fun y2=>(chk (a0.length+y2.length≤140737488355328)).bind fun _=>(Lref03_Initial).bind fun y4=>Ze (Zf5 a0 y2) (0,y4)
noncomputable def ZaI (a0:(List Int)):Option ((Arr 32)) :=
 (Y9 a0).bind fun y1=>(Y9 y1.l).bind fun y2=>some (y2)
noncomputable def Zfz (a0:Tapi_Tx):Option ((Arr 32)) :=
 (Zaz a0).bind fun y1=>(if ¬ (y1=true) then some (zA 32) else(ZaG a0 false).bind fun y2=>(ZaI y2).bind fun y3=>some (y3))
end
end Go.Lc
