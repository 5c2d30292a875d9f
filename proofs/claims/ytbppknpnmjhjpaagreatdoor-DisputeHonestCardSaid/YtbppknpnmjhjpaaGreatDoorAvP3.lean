import Derived.Test.YtbppknpnmjhjpaaGreatDoorAvP2
import Derived.ChangeSlices
import Derived.Below
namespace Go.Av
open Go.RowKit
set_option linter.unusedVariables false
section
variable {tt:TT}{T:Tab}{G:Glob}{ops:List Oper}
theorem XG {d:Option Nat}{p:PV}{x:Nat×PV}(h:x∈Zdb d p):x.1∈d.toList:=by
 cases d with
 | none=>simp[Zdb] at h
 | some d=>simp[Zdb] at h; simp[h]
theorem ZvZ {env:Env}{o:Oper}{bx:Boxes}{u:Upd}(h:eff tt T G o env bx=some u):∀ x∈u.slots,x.1∈wrS o:=by
 unfold eff at h;unfold wrS;split at h
 ·split at h
  ·rename_i d _ hd
   split at h <;> simp at h
   subst h;simp[hd]
  ·simp at h
 ·split at h
  ·rename_i d _ hd
   split at h
   case h_2=>simp at h
   split at h <;> simp at h
   subst h;simp[hd]
  ·simp at h
 ·split at h
  ·split at h <;> simp at h
   subst h;exact fun x hx=>XG hx
  ·split at h
   ·split at h
    ·split at h <;> simp at h
     subst h;exact fun x hx=>XG hx
    split at h
    ·split at h
     ·split at h <;> simp at h
      subst h;exact fun x hx=>XG hx
     ·simp at h
    ·simp at h
   ·simp at h
  ·simp at h
 ·split at h
  ·split at h
   ·split at h
    ·split at h
     ·split at h
      ·split at h
       ·split at h
        ·split at h <;> simp only[Option.some.injEq,reduceCtorEq] at h
         subst h;simp
        ·simp at h
       ·simp at h
        subst h;simp
      ·simp at h
     ·simp at h
    ·simp at h
   ·simp at h
  ·simp at h
 ·split at h
  ·rename_i d _ _ hd
   split at h
   ·split at h
    ·split at h <;> simp only[Option.some.injEq,reduceCtorEq] at h
     subst h;simp[hd]
    ·simp at h
   ·simp at h
  ·simp at h
 ·split at h
  ·rename_i d _ _ _ hd
   split at h
   ·split at h
    ·split at h <;> simp at h
     subst h;simp[hd]
    ·simp at h
   ·simp at h
  ·simp at h
 ·split at h
  ·rename_i d _ _ _ _ hd
   split at h
   ·split at h
    ·split at h
     ·split at h <;> simp only[Option.some.injEq,reduceCtorEq] at h
      rename_i u0 hu0;subst h;simp only;unfold Zik at hu0;split at hu0
      ·split at hu0 <;> simp at hu0
       subst hu0;simp[hd]
      ·split at hu0
       ·split at hu0 <;> simp at hu0
        subst hu0;simp[hd]
       ·simp at hu0
      ·simp at hu0
     ·simp at h
    ·simp at h
   ·simp at h
  ·simp at h
 ·split at h
  ·split at h
   ·split at h
    ·split at h <;> simp only[Option.some.injEq,reduceCtorEq] at h
     rename_i u0 hu0;subst h;simp only;unfold ZhS at hu0;split at hu0
     ·split at hu0
      ·split at hu0
       ·injection hu0 with hu0
        subst hu0;exact fun x hx=>XG hx
       ·simp at hu0
      ·simp at hu0
     ·split at hu0
      ·split at hu0
       ·split at hu0
        ·injection hu0 with hu0
         subst hu0;exact fun x hx=>XG hx
        ·simp at hu0
       ·simp at hu0
      ·simp at hu0
     ·simp at hu0
    ·simp at h
   ·simp at h
  ·simp at h
 ·split at h
  ·split at h
   ·split at h
    ·split at h
     ·unfold ZhS at h
      simp only at h;split at h
      ·split at h
       ·injection h with h
        subst h;exact fun x hx=>by simp[Zdb] at hx
       ·simp at h
      ·simp at h
     ·simp at h
    ·simp at h
   ·simp at h
  ·simp at h
 ·split at h
  ·unfold Zj2 at h
   split at h
   ·split at h
    ·simp only at h
     split at h
     ·split at h <;> simp only[Option.some.injEq,reduceCtorEq] at h
      subst h;exact fun x hx=>XG hx
     ·simp at h
    ·simp at h
   ·simp at h
  ·simp at h
 ·split at h
  ·rename_i d _ hd
   split at h
   ·split at h
    ·split at h <;> simp only[Option.some.injEq,reduceCtorEq] at h
     subst h;simp[hd]
    ·simp at h
   ·simp at h
  ·simp at h
 ·split at h
  ·split at h
   ·split at h
    ·split at h
     case isFalse=>simp at h
     simp only at h;split at h
     ·simp only[Option.some.injEq] at h
      subst h;exact fun x hx=>XG hx
     ·simp at h
    ·simp at h
   ·simp at h
  ·simp at h
 ·split at h
  ·split at h
   ·split at h
    ·split at h <;> simp only[Option.some.injEq,reduceCtorEq] at h
     subst h;simp
    ·simp at h
   ·simp at h
  ·simp at h
 ·split at h
  ·split at h
   ·split at h
    ·split at h
     case isFalse=>simp at h
     split at h <;> simp only[Option.some.injEq,reduceCtorEq] at h
     subst h;exact fun x hx=>XG hx
    ·simp at h
   ·split at h
    ·split at h <;> simp only[Option.some.injEq,reduceCtorEq] at h
     subst h;exact fun x hx=>XG hx
    ·simp at h
   ·split at h <;> simp only[Option.some.injEq,reduceCtorEq] at h
    subst h;exact fun x hx=>XG hx
  ·simp at h
 ·split at h
  ·split at h
   ·split at h
    ·split at h <;> simp only[Option.some.injEq,reduceCtorEq] at h
     subst h;exact fun x hx=>XG hx
    ·simp at h
   ·simp at h
  ·split at h <;> simp only[Option.some.injEq,reduceCtorEq] at h
   subst h;exact fun x hx=>XG hx
 ·split at h <;> simp at h
  subst h;exact fun x hx=>XG hx
theorem Ztm {st:ASt}{o:Oper}{u:Upd}(h:Zhh tt T G ops o st=some u):∀ x∈u.slots,x.1∈wrS o:=by
 unfold Zhh at h;split at h
 ·exact ZvZ h
 ·simp at h
  subst h;exact fun x hx=>XG hx
 ·simp at h
theorem Ztn {env env':Env}{o:Oper}(h:∀ t∈rdS ops o,env t=env' t):Zot ops env o.guard=Zot ops env' o.guard:=by
 unfold Zot;cases hg:o.guard with
 | none=>rfl
 | some gw =>
  obtain⟨j,want⟩:=gw;simp only;cases hj:ops[j]? with
  | none=>rfl
  | some o' =>
   simp only;cases hd:o'.dst with
   | none=>rfl
   | some d =>
    simp only;rw[h d (by simp[rdS,hg,hj,hd])]
theorem Zr6 {st st':ASt}{o:Oper}{u:Upd}(hu:Zhh tt T G ops o st=some u) (h:∀ t∈rdS ops o,st.get t=st'.get t) (hb:∀ nm∈u.reads,getB st.boxes nm=getB st'.boxes nm):Zhh tt T G ops o st'=some u:=by
 unfold Zhh at hu ⊢;rw[← Ztn h];split at hu
 ·exact Zuw hu (fun x hx t ht=>h t (by subst ht; exact List.mem_append_left _ (Ztj hx))) hb
 ·exact hu
 ·simp at hu
theorem Zto {ws:List (Nat×PV)}{env:List PV}{d:Nat}{p:PV}(h:∀ x∈ws,x.1≠d):Y5 (env.set d p) ws=(Y5 env ws).set d p:=by
 induction ws generalizing env with
 | nil=>rfl
 | cons x ws ih =>
  obtain⟨d',p'⟩:=x;simp only[Y5];have hne:d'≠d:=h (d',p') (by simp);rw[List.set_comm _ _ (fun e=>hne e.symm),ih fun y hy=>h y (by simp[hy])]
theorem Zr7 {ws ws':List (Nat×PV)}{env:List PV}(h:∀ x∈ws,∀ y∈ws',x.1≠y.1):Y5 (Y5 env ws) ws'=Y5 (Y5 env ws') ws:=by
 induction ws generalizing env with
 | nil=>rfl
 | cons x ws ih =>
  obtain⟨d,p⟩:=x;simp only[Y5];rw[ih fun y hy=>h y (by simp[hy]),Zto fun y hy=>fun e=>h (d,p) (by simp) y hy e.symm]
theorem Zhk {l m:List Nat}(h:Zlw l m=true):∀ x∈l,x ∉ m:=by
 unfold Zlw at h;intro x hx hm;have:=List.all_eq_true.1 h x hx;simp[hm] at this
theorem ZpW {n:Nat}{b:Box}:∀ {l:List (Nat×Box)}{bx:Boxes},(∀ x∈l,x.1≠n)→ZZ (setB bx n b) l=setB (ZZ bx l) n b
 | [],bx,_=>rfl
 | (m,c) :: l,bx,h=>by
  simp only[ZZ];rw[Zuf (h (m,c) (by simp)).symm,ZpW fun x hx=>h x (by simp[hx])]
theorem Ztp {l l':List (Nat×Box)}{bx:Boxes}(h:∀ x∈l,∀ y∈l',x.1≠y.1):ZZ (ZZ bx l) l'=ZZ (ZZ bx l') l:=by
 induction l generalizing bx with
 | nil=>rfl
 | cons x l ih =>
  obtain⟨n,b⟩:=x;simp only[ZZ];rw[ih fun y hy=>h y (by simp[hy]),ZpW fun y hy=>(h (n,b) (by simp) y hy).symm]
theorem Zv0 {u v:Upd}{st:ASt}(h1:∀ x∈u.slots,∀ y∈v.slots,x.1≠y.1) (h2:∀ x∈u.boxes,∀ y∈v.boxes,x.1≠y.1):v.app (u.app st)=u.app (v.app st):=by
 unfold Upd.app;simp only;rw[Zr7 h1,Ztp h2]
theorem Zqy {ws:List (Nat×PV)}{env:List PV}:(Y5 env ws).length=env.length:=by
 induction ws generalizing env with
 | nil=>rfl
 | cons x ws ih=>obtain⟨d,p⟩:=x; simp only[Y5]; rw[ih]; simp
theorem Zq9 {ws:List (Nat×PV)}{e1 e2:List PV}{t:Nat}(hl:e1.length=e2.length) (h:e1.getD t .undef=e2.getD t .undef):(Y5 e1 ws).getD t .undef=(Y5 e2 ws).getD t .undef:=by
 induction ws generalizing e1 e2 with
 | nil=>exact h
 | cons x ws ih =>
  obtain⟨d,p⟩:=x;simp only[Y5];refine ih (by simpa using hl) ?_;simp only[List.getD_eq_getElem?_getD,List.getElem?_set] at h ⊢;by_cases hd:d=t
  ·simp only[hd,if_true,hl]
  ·simp only[hd,if_false]; exact h
theorem Ztq {ws:List (Nat×PV)}{e:List PV}{t:Nat}(h:∀ x∈ws,x.1≠t):(Y5 e ws).getD t .undef=e.getD t .undef:=by
 induction ws generalizing e with
 | nil=>rfl
 | cons x ws ih =>
  obtain⟨d,p⟩:=x;simp only[Y5];rw[ih fun y hy=>h y (by simp[hy])];simp only[List.getD_eq_getElem?_getD];rw[List.getElem?_set_ne (h (d,p) (by simp))]
theorem Zr8 {l:List (Nat×Box)}{b1 b2:Boxes}{nm:Nat}(h:getB b1 nm=getB b2 nm):getB (ZZ b1 l) nm=getB (ZZ b2 l) nm:=by
 induction l generalizing b1 b2 with
 | nil=>exact h
 | cons x l ih =>
  obtain⟨n,b⟩:=x;simp only[ZZ];refine ih ?_;rw[getB_set,getB_set,h]
def XP (D:Nat→Bool):Nat→List Upd→ASt→ASt
 | _,[],st=>st
 | k,u :: us,st=>XP D (k+1) us (if D k then u.app st else st)
theorem Zmz {D D':Nat→Bool}:∀ {us:List Upd}{k:Nat}{st:ASt},(∀ j,j<us.length→D (k+j)=D' (k+j))→XP D k us st=XP D' k us st
 | [],k,st,_=>rfl
 | u :: us,k,st,h=>by
  simp only[XP];have h0:=h 0 (by simp);simp only[Nat.add_zero] at h0;rw[h0];exact Zmz fun j hj=>by have:=h (j+1) (by simpa using hj); rwa[show k+1+j=k+(j+1) by omega]
theorem ZmA {D:Nat→Bool}:∀ {us:List Upd}{k:Nat}{st:ASt},XP D (k+1) us st=XP (fun j=>D (j+1)) k us st
 | [],k,st=>rfl
 | u :: us,k,st=>by simp only[XP]; exact ZmA
theorem ZpX {D D':Nat→Bool}{t:Nat}:∀ {us:List Upd}{k:Nat}{s1 s2:ASt},(∀ j u,us[j]? = some u→D (k+j)=D' (k+j)∨∀ x∈u.slots,x.1≠t)→s1.env.length=s2.env.length→s1.get t=s2.get t→(XP D k us s1).get t=(XP D' k us s2).get t
 | [],k,s1,s2,_,_,h=>h
 | u :: us,k,s1,s2,h,hl,hg=>by
  simp only[XP];refine ZpX (fun j v hv=>by have:=h (j+1) v (by simpa using hv); rwa[show k+1+j=k+(j+1) by omega]) ?_ ?_
  ·split <;> split <;> simp[Upd.app,Zqy,hl]
  ·have h0:=h 0 u rfl
   simp only[Nat.add_zero] at h0;rcases h0 with h0 | h0
   ·rw[h0]
    split
    ·exact Zq9 hl hg
    ·exact hg
   ·have:∀ s:ASt,(u.app s).get t=s.get t:=fun s=>Ztq h0
    split <;> split <;> (try rw[this]) <;> (try rw[this]) <;> exact hg
theorem Zra {D D':Nat→Bool}{nm:Nat}:∀ {us:List Upd}{k:Nat}{s1 s2:ASt},(∀ j u,us[j]? = some u→D (k+j)=D' (k+j)∨∀ x∈u.boxes,x.1≠nm)→getB s1.boxes nm=getB s2.boxes nm→getB (XP D k us s1).boxes nm=getB (XP D' k us s2).boxes nm
 | [],k,s1,s2,_,h=>h
 | u :: us,k,s1,s2,h,hg=>by
  simp only[XP];refine Zra (fun j v hv=>by have:=h (j+1) v (by simpa using hv); rwa[show k+1+j=k+(j+1) by omega]) ?_;have h0:=h 0 u rfl;simp only[Nat.add_zero] at h0;rcases h0 with h0 | h0
  ·rw[h0]
   split
   ·exact Zr8 hg
   ·exact hg
  ·have:∀ s:ASt,getB (u.app s).boxes nm=getB s.boxes nm:=fun s=>Zhi h0
   split <;> split <;> (try rw[this]) <;> (try rw[this]) <;> exact hg
def Zv1 (u v:Upd):Prop:=(∀ x∈u.slots,∀ y∈v.slots,x.1≠y.1)∧∀ x∈u.boxes,∀ y∈v.boxes,x.1≠y.1
theorem Znj {D:Nat→Bool}{u:Upd}:∀ {us:List Upd}{k:Nat}{st:ASt},(∀ j v,us[j]? = some v→D (k+j)=true→Zv1 u v)→XP D k us (u.app st)=u.app (XP D k us st)
 | [],k,st,_=>rfl
 | v :: us,k,st,h=>by
  simp only[XP];have h':∀ j w,us[j]? = some w→D (k+1+j)=true→Zv1 u w:=fun j w hw hd=>h (j+1) w (by simpa using hw) (by rwa[show k+(j+1)=k+1+j by omega])
  split
  ·rename_i hd
   have hc:=h 0 v rfl (by simpa using hd);rw[Zv0 hc.1 hc.2];exact Znj h'
  ·exact Znj h'
theorem Zog {D:Nat→Bool}:∀ {us:List Upd}{k i:Nat}{u:Upd}{st:ASt},us[i]? = some u→D (k+i)=false→(∀ j v,i<j→us[j]? = some v→D (k+j)=true→Zv1 u v) →
  XP (fun q=>D q || q == k+i) k us st=u.app (XP D k us st)
 | [],k,i,u,st,hu,_,_=>by simp at hu
 | v :: us,k,0,u,st,hu,hd,h=>by
  simp at hu
  subst hu;simp only[Nat.add_zero] at hd ⊢;simp only[XP,beq_self_eq_true,Bool.or_true,if_true,hd,Bool.false_eq_true,if_false]
  rw[Zmz (D' := D) fun j hj=>by
   have:(k+1+j == k)=false:=by simp; omega
   rw[this,Bool.or_false]]
  exact Znj fun j w hw hdw=>h (j+1) w (by omega) (by simpa using hw) (by rwa[show k+(j+1)=k+1+j by omega])
 | v :: us,k,i+1,u,st,hu,hd,h=>by
  simp only[XP];have h0:(k == k+(i+1))=false:=by simp
  simp only[h0,Bool.or_false];rw[show k+(i+1)=k+1+i by omega];exact Zog (by simpa using hu) (by rwa[show k+1+i=k+(i+1) by omega]) fun j w hj hw hdw=>h (j+1) w (by omega) (by simpa using hw) (by rwa[show k+(j+1)=k+1+j by omega])
inductive Zia (tt:TT) (T:Tab) (G:Glob) (ops:List Oper):List Oper→ASt→List Upd→ASt→Prop
 | nil {st}:Zia tt T G ops [] st [] st
 | cons {o l st u us st'}:Zhh tt T G ops o st=some u→Zia tt T G ops l (u.app st) us st'→Zia tt T G ops (o :: l) st (u :: us) st'
theorem runU_trace:∀ {l:List Oper}{st st':ASt}{fs:List Foot},ZdF tt T G ops l st=some (st',fs)→∃ us,Zia tt T G ops l st us st'∧fs=us.map Upd.foot
 | [],st,st',fs,h=>by simp[ZdF] at h; obtain⟨rfl,rfl⟩:=h; exact⟨[],.nil,rfl⟩
 | o :: l,st,st',fs,h=>by
  simp only[ZdF] at h;split at h
  ·rename_i u hu
   split at h <;> simp at h
   rename_i st2 fs2 h2;obtain⟨rfl,rfl⟩:=h;obtain⟨us,h3,rfl⟩:=runU_trace h2;exact⟨u :: us,.cons hu h3,rfl⟩
  ·simp at h
theorem Zia.length {l:List Oper}{st st':ASt}{us:List Upd}(h:Zia tt T G ops l st us st'):us.length=l.length:=by
 induction h with
 | nil=>rfl
 | cons _ _ ih=>simp[ih]
theorem Zia.fin {l:List Oper}{st st':ASt}{us:List Upd}(h:Zia tt T G ops l st us st'):st'=XP (fun _=>true) 0 us st:=by
 induction h with
 | nil=>rfl
 | cons _ _ ih=>rw[ih]; simp only[XP,if_true]; rw[ZmA]
theorem Zia.at {l:List Oper}{st st':ASt}{us:List Upd}(h:Zia tt T G ops l st us st'):∀ {i:Nat}{o:Oper},l[i]? = some o→∃ u,us[i]? = some u∧Zhh tt T G ops o (XP (fun j=>decide (j<i)) 0 us st)=some u:=by
 induction h with
 | nil=>intro i o hi; simp at hi
 | cons hs ht ih =>
  rename_i o' l st u us st';intro i o hi;cases i with
  | zero =>
   simp at hi
   subst hi;refine⟨u,rfl,?_⟩
   have:∀ (k:Nat) (us:List Upd) (s:ASt),XP (fun j=>decide (j<0)) k us s=s:=by
    intro k us;induction us generalizing k with
    | nil=>intro s; rfl
    | cons v us ih=>intro s; simp only[XP,Nat.not_lt_zero,decide_false,Bool.false_eq_true,if_false]; exact ih _ _
   rw[this];exact hs
  | succ i =>
   obtain⟨v,h1,h2⟩:=ih (by simpa using hi);refine⟨v,by simpa using h1,?_⟩;simp only[XP,Nat.zero_lt_succ,decide_true,if_true];rw[ZmA];have:(fun j=>decide (j+1<i+1))=fun j=>decide (j<i):=by funext j; simp
   rw[this];exact h2
inductive Anc (ops:List Oper):Nat→Nat→Prop
 | base {j i o}:ops[j]? = some o→i∈Zge o→Anc ops j i
 | step {j k i o}:ops[j]? = some o→k∈Zge o→Anc ops k i→Anc ops j i
def Zj6 (ops:List Oper) (D:Nat→Bool):Prop:=∀ (j:Nat) o,D j=true→ops[j]? = some o→∀ p∈Zge o,D p=true
theorem Zj6.anc {D:Nat→Bool}(h:Zj6 ops D){j i:Nat}(ha:Anc ops j i) (hj:D j=true):D i=true:=by
 induction ha with
 | base ho hi=>exact h _ _ hj ho _ hi
 | step ho hk _ ih=>exact ih (h _ _ hj ho _ hk)
theorem ZpY {acc:List Nat}:∀ (l:List Nat) (s i:Nat),(l.foldl (fun s i=>s ||| (2 ^ i ||| acc.getD i 0)) s).testBit i=true→s.testBit i=true∨∃ p∈l,i=p∨(acc.getD p 0).testBit i=true
 | [],s,i,h=>.inl h
 | p :: l,s,i,h=>by
  rcases ZpY l _ i h with h | ⟨q,hq,h⟩
  ·rw[Nat.testBit_or,Nat.testBit_or] at h
   simp only[Bool.or_eq_true] at h;rcases h with h | h | h
   ·exact .inl h
   ·refine .inr ⟨p,by simp,.inl ?_⟩
    rw[Nat.testBit_two_pow] at h;have:=of_decide_eq_true h;exact this.symm
   ·exact .inr ⟨p,by simp,.inr h⟩
  ·exact .inr ⟨q,by simp[hq],h⟩
theorem befL_ok:∀ (l:List Oper) (acc:List Nat),(∀ k,l[k]? = ops[acc.length+k]?)→(∀ k i,(acc.getD k 0).testBit i=true→Anc ops k i)→∀ k i,((befL l acc).getD k 0).testBit i=true→Anc ops k i
 | [],acc,_,h=>h
 | o :: l,acc,hl,h=>by
  refine befL_ok l _ (fun k=>?_) (fun k i hk=>?_)
  ·have:=hl (k+1)
   simpa[Nat.add_assoc,Nat.add_comm 1 k] using this
  ·have h0:ops[acc.length]? = some o:=by simpa using(hl 0).symm
   simp only[List.getD_eq_getElem?_getD,List.getElem?_append] at hk;split at hk
   ·exact h k i (by simpa[List.getD_eq_getElem?_getD] using hk)
   ·rename_i hge
    have hk0:k=acc.length:=by
     rcases Nat.lt_or_ge acc.length k with h' | h'
     ·have:(1:Nat)≤k-acc.length:=by omega
      rw[List.getElem?_eq_none (by simpa using this)] at hk;simp at hk
     ·omega
    subst hk0;simp at hk
    rcases ZpY (acc:=acc) _ _ _ (by simpa[List.getD_eq_getElem?_getD] using hk) with h' | ⟨p,hp,h'⟩
    ·simp at h'
    ·rcases h' with rfl | h'
     ·exact .base h0 hp
     ·exact .step h0 hp (h p i h')
theorem ZjX {fs:List Foot}(h:ZhT ops fs=true){j:Nat}{o:Oper}(hj:ops[j]? = some o):(∀ p∈Zge o,p<j)∧∃ f,fs[j]? = some f∧∀ (i:Nat),i<j→∀ o',ops[i]? = some o'→∃ f',fs[i]? = some f'∧(Anc ops j i∨ZqG ops o' o f' f=true):=by
 unfold ZhT at h;have hlt:=Zm hj;have h1:=List.all_eq_true.1 h j (by simpa using hlt);cases hf:fs[j]? with
 | none=>simp only[hj,hf] at h1; simp at h1
 | some f =>
  simp only[hj,hf,Bool.and_eq_true] at h1;refine⟨fun p hp=>by simpa using List.all_eq_true.1 h1.1 p hp,f,rfl,fun i hi o' hi'=>?_⟩;have h2:=List.all_eq_true.1 h1.2 i (by simpa using hi);cases hf':fs[i]? with
  | none=>simp only[hi',hf'] at h2; simp at h2
  | some f' =>
   simp only[hi',hf',Bool.or_eq_true] at h2;exact⟨f',rfl,h2.imp (fun h=>befL_ok ops [] (by simp) (by simp) j i h) id⟩
theorem ZmB {o o':Oper}{f f':Foot}(h:ZqG ops o o' f f'=true) :
  (∀ x∈wrS o,x ∉ rdS ops o')∧(∀ x∈wrS o,x ∉ wrS o')∧(∀ x∈wrS o',x ∉ rdS ops o)∧(∀ x∈f.2,x ∉ f'.1)∧(∀ x∈f.2,x ∉ f'.2)∧(∀ x∈f'.2,x ∉ f.1):=by
 unfold ZqG at h;simp only[Bool.and_eq_true] at h;obtain⟨⟨⟨⟨⟨h1,h2⟩,h3⟩,h4⟩,h5⟩,h6⟩:=h;exact⟨Zhk h1,Zhk h2,Zhk h3,Zhk h4,Zhk h5,Zhk h6⟩
theorem Zqz {D:Nat→Bool}(hc:Zj6 ops D){i:Nat}(hp:∀ o,ops[i]? = some o→∀ p∈Zge o,D p=true):Zj6 ops fun k=>D k || k == i:=by
 intro j o hj ho p hpp;simp only[Bool.or_eq_true,beq_iff_eq] at hj ⊢;left
 rcases hj with hj | rfl
 ·exact hc j o hj ho p hpp
 ·exact hp o ho p hpp
def ZnS (n:Nat) (D:Nat→Bool):Nat:=(List.range n).countP fun k=>!D k
theorem Zm0 {D:Nat→Bool}{i:Nat}:∀ (l:List Nat),i∈l→D i=false→l.countP (fun k=>!(D k || k == i))<l.countP (fun k=>!D k)
 | [],h,_=>by simp at h
 | x :: l,h,hD=>by
  have hle:l.countP (fun k=>!(D k || k == i))≤l.countP (fun k=>!D k):=List.countP_mono_left fun y _ hy=>by simp at hy ⊢; exact hy.1
  by_cases hx:x=i
  ·subst hx
   simp only[List.countP_cons,hD];simp
   simp at hle
   omega
  ·have hm:i∈l:=by simpa[Ne.symm hx] using h
   have ih:=Zm0 l hm hD;simp only[List.countP_cons];have:(x == i)=false:=by simpa using hx
   simp only[this,Bool.or_false];omega
theorem ZoY {n:Nat}{D:Nat→Bool}{i:Nat}(hi:i<n) (hD:D i=false):ZnS n (fun k=>D k || k == i)<ZnS n D:=Zm0 _ (by simpa using hi) hD
theorem Zm1 {n:Nat}{D:Nat→Bool}:(∀ k,k<n→D k=true)∨∃ i,i<n∧D i=false∧∀ k,k<i→D k=true:=by
 induction n with
 | zero=>exact .inl fun k hk=>by omega
 | succ n ih =>
  rcases ih with h | ⟨i,h1,h2,h3⟩
  ·cases hn:D n with
   | true =>
    refine .inl fun k hk=>?_
    rcases Nat.lt_or_eq_of_le (Nat.le_of_lt_succ hk) with h' | h'
    ·exact h k h'
    ·rw[h']; exact hn
   | false=>exact .inr ⟨n,by omega,hn,h⟩
  ·exact .inr ⟨i,by omega,h2,h3⟩
theorem Zv2 {D:Nat→Bool}{us:List Upd}{n:Nat}(hn:us.length=n) (h:∀ k,k<n→D k=true){st:ASt}:XP D 0 us st=XP (fun _=>true) 0 us st :=
 Zmz fun j hj=>by rw[Nat.zero_add]; exact h j (by omega)
theorem Zxj {st0 stF:ASt}{us:List Upd}(ht:Zia tt T G ops ops st0 us stF) (hok:ZhT ops (us.map Upd.foot)=true){D:Nat→Bool}(hc:Zj6 ops D){i:Nat}{o:Oper}(hi:ops[i]? = some o) (hD:D i=false) (hp:∀ p∈Zge o,D p=true) :
  ∃ u,us[i]? = some u∧Zhh tt T G ops o (XP D 0 us st0)=some u∧XP (fun q=>D q || q == i) 0 us st0=u.app (XP D 0 us st0):=by
 obtain⟨u,hu,hs⟩:=ht.at hi;have hf:∀ {j:Nat}{v:Upd},us[j]? = some v→(us.map Upd.foot)[j]? = some v.foot:=fun hv=>by rw[List.getElem?_map,hv]; rfl
 have hsl:∀ {j:Nat}{v:Upd}{oj:Oper},ops[j]? = some oj→us[j]? = some v→∀ x∈v.slots,x.1∈wrS oj:=by
  intro j v oj hoj hv;obtain⟨v',h1,h2⟩:=ht.at hoj;rw[hv] at h1;injection h1 with h1;subst h1;exact Ztm h2
 have hbx:∀ {v:Upd},∀ x∈v.boxes,x.1∈v.foot.2:=fun x hx=>List.mem_map.2 ⟨x,hx,rfl⟩
 have hlen:=ht.length
 have hop:∀ {j:Nat}{v:Upd},us[j]? = some v→∃ oj,ops[j]? = some oj:=by
  intro j v hv;have hj:=Zm hv;exact⟨ops[j]'(by omega),by simp[show j<ops.length by omega]⟩
 have hrel:∀ {j:Nat}{v:Upd},us[j]? = some v→D j≠decide (j<i)→j≠i→∃ oj,ops[j]? = some oj∧((∀ x∈wrS oj,x ∉ rdS ops o)∧(∀ x∈v.foot.2,x ∉ u.foot.1)):=by
  intro j v hv hne hji;obtain⟨oj,hoj⟩:=hop hv;refine⟨oj,hoj,?_⟩;rcases Nat.lt_or_gt_of_ne hji with hlt | hgt
  ·have hDj:D j=false:=by cases hd:D j with | false=>rfl | true=>rw[hd] at hne; simp[hlt] at hne
   obtain⟨_,f,hf1,hf2⟩:=ZjX hok hi;obtain⟨f',hf3,hf4⟩:=hf2 j hlt oj hoj;rw[hf hu] at hf1;rw[hf hv] at hf3;injection hf1 with hf1;injection hf3 with hf3;subst hf1 hf3;rcases hf4 with hanc | hind
   ·exfalso
    have:D j=true:=by
     cases hanc with
     | base ho hm=>rw[hi] at ho; injection ho with ho; subst ho; exact hp _ hm
     | step ho hk hrest=>rw[hi] at ho; injection ho with ho; subst ho; exact hc.anc hrest (hp _ hk)
    rw[hDj] at this;cases this
   ·obtain⟨h1,h2,h3,h4,h5,h6⟩:=ZmB hind
    exact⟨h1,h4⟩
  ·have hDj:D j=true:=by cases hd:D j with | true=>rfl | false=>rw[hd] at hne; simp at hne; omega
   obtain⟨_,f,hf1,hf2⟩:=ZjX hok hoj;obtain⟨f',hf3,hf4⟩:=hf2 i hgt o hi;rw[hf hv] at hf1;rw[hf hu] at hf3;injection hf1 with hf1;injection hf3 with hf3;subst hf1 hf3;rcases hf4 with hanc | hind
   ·exfalso
    have:=hc.anc hanc hDj;rw[hD] at this;cases this
   ·obtain⟨h1,h2,h3,h4,h5,h6⟩:=ZmB hind
    exact⟨h3,h6⟩
 refine⟨u,hu,Zr6 hs (fun t htt=>ZpX (fun j v hv=>?_) rfl rfl) (fun nm hn=>Zra (fun j v hv=>?_) rfl),?_⟩
 ·rw[Nat.zero_add]
  by_cases hji:j=i
  ·subst hji
   left
   rw[hD];simp
  ·by_cases hne:D j=decide (j<i)
   ·exact .inl hne.symm
   ·right
    obtain⟨oj,hoj,h1,_⟩:=hrel hv hne hji;intro x hx he;exact h1 x.1 (hsl hoj hv x hx) (he ▸ htt)
 ·rw[Nat.zero_add]
  by_cases hji:j=i
  ·subst hji
   left
   rw[hD];simp
  ·by_cases hne:D j=decide (j<i)
   ·exact .inl hne.symm
   ·right
    obtain⟨oj,hoj,_,h1⟩:=hrel hv hne hji;intro x hx he;exact h1 x.1 (hbx x hx) (he ▸ hn)
 ·have:=Zog (D:=D) (us:=us) (k:=0) (i:=i) (u:=u) (st:=st0) hu (by rw[Nat.zero_add]; exact hD) (fun j v hij hv hDj=>by
   rw[Nat.zero_add] at hDj;obtain⟨oj,hoj⟩:=hop hv;obtain⟨_,f,hf1,hf2⟩:=ZjX hok hoj;obtain⟨f',hf3,hf4⟩:=hf2 i hij o hi;rw[hf hv] at hf1;rw[hf hu] at hf3;injection hf1 with hf1;injection hf3 with hf3;subst hf1 hf3;rcases hf4 with hanc | hind
   ·exfalso
    have:=hc.anc hanc hDj;rw[hD] at this;cases this
   ·obtain⟨h1,h2,h3,h4,h5,h6⟩:=ZmB hind
    exact⟨fun x hx y hy he=>h2 x.1 (hsl hi hu x hx) (he ▸ hsl hoj hv y hy),fun x hx y hy he=>h5 x.1 (hbx x hx) (he ▸ hbx y hy)⟩)
  rw[Nat.zero_add] at this;exact this
end
section
variable {P:Program}{tt:TT}{T:Tab}{G:Glob}{ops:List Oper}{B:Nat}{ks:List Nat}{w0:World}{S0:Nat→Nat→Prop}{Q:Exit→Act→World→Prop}
theorem Znk {listed:Array Bool}{i:Nat}:i∈Region.ready .any ops.toArray listed↔i<ops.length∧listed.getD i true=false∧∀ o,ops[i]? = some o→∀ p∈Zge o,listed.getD p false=true:=by
 unfold Region.ready;simp only[List.mem_filter,List.mem_range,List.size_toArray,Bool.and_eq_true,Bool.not_eq_true',List.getElem?_toArray];constructor
 ·rintro⟨h1,h2,h3⟩
  refine⟨h1,h2,fun o ho p hp=>?_⟩;rw[ho] at h3;simp only[Option.map_some,Option.getD_some] at h3;unfold Zge at hp;simp only[List.mem_map,List.mem_filter] at hp;obtain⟨e,⟨he,hb⟩,rfl⟩:=hp;rw[Array.all_eq_true_iff_forall_mem] at h3;have:=h3 e (by simpa using he);simpa[hb] using this
 ·rintro⟨h1,h2,h3⟩
  refine⟨h1,h2,?_⟩;have ho:ops[i]? = some ops[i]:=by simp[h1]
  rw[ho];simp only[Option.map_some,Option.getD_some];rw[Array.all_eq_true_iff_forall_mem];intro e he;cases hb:Region.binds .any e with
  | false=>simp
  | true =>
   have:=h3 _ ho e.on (List.mem_map.2 ⟨e,List.mem_filter.2 ⟨by simpa using he,hb⟩,rfl⟩);simpa using this
theorem Zyp (htt:∀ t i,tt t=some i→Z0 P t=some i) (hT:∀ f F,T f=some F→Zd9 P G (f % 1000000) F){st0 stF:ASt}{us:List Upd}(ht:Zia tt T G ops ops st0 us stF) (hok:ZhT ops (us.map Upd.foot)=true) (hq:∀ a w,Sim G B ks w0 S0 stF a w→Q .normal a w) :
  ∀ (fuel:Nat) (listed:Array Bool) (a:Act) (w:World),listed.size=ops.length→Zj6 ops (fun k=>listed.getD k false)→ZnS ops.length (fun k=>listed.getD k false)≤fuel →
   Sim G B ks w0 S0 (XP (fun k=>listed.getD k false) 0 us st0) a w→wpAny P .any ops.toArray Q fuel listed a w:=by
 have hdone:∀ (listed:Array Bool) (a:Act) (w:World),listed.size=ops.length→Zj6 ops (fun k=>listed.getD k false)→Region.ready .any ops.toArray listed=[] →
   Sim G B ks w0 S0 (XP (fun k=>listed.getD k false) 0 us st0) a w→Q .normal a w:=by
  intro listed a w hsz hc hr hs;rcases Zm1 (n:=ops.length) (D:=fun k=>listed.getD k false) with h | ⟨i,h1,h2,h3⟩
  ·rw[Zv2 ht.length h,← ht.fin] at hs
   exact hq a w hs
  ·have:i∈Region.ready .any ops.toArray listed:=Znk.2 ⟨h1,by
    have hlt:i<listed.size:=by omega
    simpa[Array.getD,hlt] using h2,fun o ho p hp=>h3 p ((ZjX hok ho).1 p hp)⟩
   rw[hr] at this;simp at this
 intro fuel;induction fuel with
 | zero =>
  intro listed a w hsz hc hm hs
  have hall:∀ k,k<ops.length→listed.getD k false=true:=by
   rcases Zm1 (n:=ops.length) (D:=fun k=>listed.getD k false) with h | ⟨i,h1,h2,h3⟩
   ·exact h
   ·have:=ZoY (D:=fun k=>listed.getD k false) h1 h2; omega
  have hr:Region.ready .any ops.toArray listed=[]:=by
   apply List.eq_nil_iff_forall_not_mem.2
   intro i hi;obtain⟨h1,h2,_⟩:=Znk.1 hi;have:=hall i h1;have hlt:i<listed.size:=by omega
   simp[Array.getD,hlt] at this h2
   rw[this] at h2;simp at h2
  exact⟨hr,hdone listed a w hsz hc hr hs⟩
 | succ fuel ih =>
  intro listed a w hsz hc hm hs;refine⟨fun hr=>hdone listed a w hsz hc hr hs,fun i hi=>?_⟩;obtain⟨h1,h2,h3⟩:=Znk.1 hi;have hlt:i<listed.size:=by omega
  have hDi:listed.getD i false=false:=by simpa[Array.getD,hlt] using h2
  have hfun:(fun k=>(listed.setIfInBounds i true).getD k false)=fun k=>listed.getD k false || k == i:=by
   funext k
   simp only[Array.getD_eq_getD_getElem?,Array.getElem?_setIfInBounds];by_cases hk:i=k
   ·subst hk; simp[hlt]
   ·have:(k == i)=false:=by simpa using fun e=>hk e.symm
    simp[hk,this]
  have hc':Zj6 ops (fun k=>(listed.setIfInBounds i true).getD k false):=by
   rw[hfun];exact Zqz hc h3
  have ho:ops[i]? = some ops[i]:=by simp[h1]
  obtain⟨u,hu,hst,hins⟩:=Zxj ht hok hc ho hDi (h3 _ ho);have h1' := Zq2 (Q:=Q) htt hT hs hst;unfold wpOp;simp only[List.getElem?_toArray,ho]
  have hnext:∀ a' w',Sim G B ks w0 S0 (u.app (XP (fun k=>listed.getD k false) 0 us st0)) a' w'→wpAny P .any ops.toArray Q fuel (listed.setIfInBounds i true) a' w' := by
   intro a' w' hs';refine ih _ a' w' (by simpa using hsz) hc' ?_ ?_
   ·rw[hfun]
    have:=ZoY (D:=fun k=>listed.getD k false) h1 hDi;omega
   ·rw[hfun,hins]
    exact hs'
  split
  ·rename_i hw
   rw[if_pos hw] at h1';exact .inl (Oper.wp_mono hnext h1')
  ·rename_i hw
   rw[if_neg hw] at h1';exact hnext _ _ h1'
end
section
variable {P:Program}{tt:TT}{T:Tab}{G:Glob}{kp:Keep}{n:Nat}{B:Nat}{ks:List Nat}{w0:World}{S0 S S':Nat→Nat→Prop}{bm bm':BM}{bx:Boxes}{st st':ASt}{a:Act}{w w':World}{Q:Exit→Act→World→Prop}
theorem Zxk (hm:P.follows .mixedOrders=true) (htt:∀ t i,tt t=some i→Z0 P t=some i) (hT:∀ f F,T f=some F→Zd9 P G (f % 1000000) F) :
  ∀ (c:Code) (st:ASt) (a:Act) (w:World) (r:AE×ASt),Yt tt T G kp n c st=some r→Sim G B ks w0 S0 st a w→c.wp P (Zq3 G B ks w0 S0 r) a w:=by
 intro c;induction c with
 | skip=>intro st a w r h hs; simp[Yt] at h; subst h; exact wp_skip ⟨rfl,hs⟩
 | region id ops draw =>
  intro st0 a w r h hs0;simp only[Yt] at h
  have hs:Sim G B ks w0 S0 (ZbL (kp (id+1000000)) st0) a w:=by
   unfold ZbL;split
   ·exact hs0
   ·exact ZpV hs0 _
  generalize ZbL (kp (id+1000000)) st0=st at h hs;cases draw with
  | false =>
   simp only[Bool.false_eq_true,if_false] at h;split at h <;> simp at h
   rename_i st' hr;subst h;have:=Zpt (Q:=Zq3 G B ks w0 S0 (.normal,st')) htt hT hs hr (fun a w hs=>⟨rfl,hs⟩);rw[Array.toArray_toList] at this;exact wp_region_list this
  | true =>
   simp only[if_true] at h;split at h
   ·rename_i st' fs hr
    split at h <;> simp at h
    rename_i hd;subst h;obtain⟨us,ht,rfl⟩:=runU_trace hr;refine wp_region_any hm ?_;have hs':Sim G B ks w0 S0 st a w.drew:=by obtain⟨S,bm,hs⟩:=hs; exact⟨S,bm,hs.drew⟩
    have hno:(fun k=>(Array.replicate ops.size false).getD k false)=fun _=>false:=by
     funext k
     simp[Array.getD_eq_getD_getElem?,Array.getElem?_replicate]
     split <;> rfl
    have hnone:∀ (k:Nat) (us:List Upd) (s:ASt),XP (fun _=>false) k us s=s:=by
     intro k us;induction us generalizing k with
     | nil=>intro s; rfl
     | cons v us ih=>intro s; simp only[XP,Bool.false_eq_true,if_false]; exact ih _ _
    have:=Zyp (Q:=Zq3 G B ks w0 S0 (.normal,st')) htt hT ht hd (fun a w hs=>⟨rfl,hs⟩) ops.size (Array.replicate ops.size false) a w.drew (by simp) ?_ ?_ ?_
    ·rw[Array.toArray_toList] at this
     exact this
    ·intro j o hj
     simp[Array.getD_eq_getD_getElem?,Array.getElem?_replicate] at hj
     split at hj <;> simp at hj
    ·unfold ZnS
     exact Nat.le_trans List.countP_le_length (by simp)
    ·rw[hno,hnone]
     exact hs'
   ·simp at h
 | seq x y ihx ihy =>
  intro st a w r h hs;simp only[Yt] at h;cases hx:Yt tt T G kp n x st with
  | none=>simp[hx] at h
  | some r1 =>
   obtain⟨ae,st1⟩:=r1;refine wp_seq (Code.wp_mono (fun e a' w' hp=>?_) (ihx st a w _ hx hs));obtain⟨he,hs1⟩:=hp;rw[hx] at h;cases ae with
   | normal=>simp only[AE.to] at he; subst he; exact ihy st1 a' w' r h hs1
   | exit id=>simp at h; subst h; simp only[AE.to] at he; subst he; exact⟨rfl,hs1⟩
   | ret=>simp at h; subst h; simp only[AE.to] at he; subst he; exact⟨rfl,hs1⟩
 | cond x y z ihy ihz =>
  intro st a w r h hs;simp only[Yt] at h;split at h
  ·rename_i t hx
   have he:a.eval x = .bool t:=by
    obtain⟨S,bm,hs⟩:=hs;exact hs.evalV hx
   refine wp_cond he ?_;cases t with
   | true=>exact ihy st a w r (by simpa using h) hs
   | false=>exact ihz st a w r (by simpa using h) hs
  ·simp at h
 | block id c ih =>
  intro st a w r h hs;simp only[Yt] at h;cases hx:Yt tt T G kp n c st with
  | none=>simp[hx] at h
  | some r1 =>
   obtain⟨ae,st1⟩:=r1;refine wp_block (Code.wp_mono (fun e a' w' hp=>?_) (ih st a w _ hx hs));obtain⟨he,hs1⟩:=hp;rw[hx] at h;cases ae with
   | normal=>simp at h; subst h; simp only[AE.to] at he; subst he; exact⟨rfl,hs1⟩
   | exit id' =>
    simp only[AE.to] at he;subst he;simp only[Exit.inBlock];simp only at h;split
    ·rename_i hid
     rw[if_pos hid] at h;simp at h
     subst h;exact⟨rfl,hs1⟩
    ·rename_i hid
     rw[if_neg hid] at h;simp at h
     subst h;exact⟨rfl,hs1⟩
   | ret=>simp at h; subst h; simp only[AE.to] at he; subst he; exact⟨rfl,hs1⟩
 | loop c ih =>
  intro st a w r h hs;simp only[Yt] at h;exact wp_loop_rounds n (Zsv (fun st a w r hf hs=>ih st a w r hf hs) n st a w h hs)
 | exit id=>intro st a w r h hs; simp[Yt] at h; subst h; exact wp_exit ⟨rfl,hs⟩
 | ret=>intro st a w r h hs; simp[Yt] at h; subst h; exact wp_ret ⟨rfl,hs⟩
 | rangeFunc=>intro st a w r h hs; simp[Yt] at h
 | scope=>intro st a w r h hs; simp[Yt] at h
 | label=>intro st a w r h hs; simp[Yt] at h
 | goto=>intro st a w r h hs; simp[Yt] at h
 | refuse=>intro st a w r h hs; simp[Yt] at h
def Ztr (tmps:Array Value):ResultVar→Sem Value
 | .tmp t=>pure (tmps.getD t undef)
 | .cell a t=>do loadVar t (← asAddr (tmps.getD a undef))
theorem Zts (fn:Func) (tmps:Array Value):results fn tmps=(fn.results.mapM (Ztr tmps) >>= fun vs=>pure (if h:vs.size=1 then vs[0] else .tuple vs)):=by
 unfold results
 congr 1
theorem Ztt (htt:∀ t i,tt t=some i→Z0 P t=some i) (h:Zl G B ks w0 S0 S bm st a w){x:ResultVar}{p:PV}(hp:Zl3 tt st x=some p) :
  ∃ v,(Ztr a.tmps x).run P w = .ok v w∧X9 S w bm st.boxes p v:=by
 cases x with
 | tmp t =>
  simp[Zl3] at hp
  subst hp;exact⟨_,rfl,h.slot t⟩
 | cell b t =>
  simp only[Zl3] at hp;split at hp
  ·rename_i i nm ver k off e hi hx
   split at hp
   ·rename_i bb hb
    split at hp
    ·rename_i hc
     split at hp
     ·rename_i l hl
      have hs:=h.slot b;rw[hx] at hs;simp only[Ztr];generalize a.tmps.getD b undef=v at hs ⊢;cases hs with
      | base hs=>cases hs with
       | ptr _ _ _ _ _ kk hmap hk =>
        obtain⟨b',q1,q2,q3⟩:=hk;rw[hb] at q1;injection q1 with q1;subst q1;obtain⟨_,C,hbm⟩:=q3 hc.1;obtain⟨vs,hl1,hl2⟩:=h.lies hmap hb hbm hl;obtain⟨v,hv,hr⟩:=ZfD (P:=P) (bm:=bm) (bx:=st.boxes) (Zn (htt _ _ hi)) hl2 hl1 hp
        have he:k * e=k * bb.e:=by
         rcases hc.2 with rfl | h'
         ·simp
         ·rw[h']
        refine⟨v,?_,.base hr⟩;rw[he];simpa[asAddr] using hv
     ·simp at hp
    ·simp at hp
   ·simp at hp
  ·simp at hp
theorem ZoZ (htt:∀ t i,tt t=some i→Z0 P t=some i) (h:Zl G B ks w0 S0 S bm st a w):∀ {l:List ResultVar}{ps:List PV},ZkP tt st l=some ps →
  ∃ vs:List Value,(l.mapM (Ztr a.tmps)).run P w = .ok vs w∧Zk (X9 S w bm st.boxes) ps vs
 | [],ps,hp=>by simp[ZkP] at hp; subst hp; exact⟨[],rfl,.nil⟩
 | x :: l,ps,hp=>by
  simp only[ZkP] at hp;split at hp
  ·rename_i p ps' h1 h2
   simp at hp
   subst hp;obtain⟨v,hv,hr⟩:=Ztt htt h h1;obtain⟨vs,hvs,hrs⟩:=ZoZ htt h h2;refine⟨v :: vs,?_,.cons hr hrs⟩;rw[List.mapM_cons,Sem.run_bind,hv];simp only[Result.andThen_ok,Sem.run_bind,hvs,Sem.run_pure]
  ·simp at hp
theorem Zsw (h:Zl G B ks w0 S0 S bm st a w){V:List Nat}{fl:Bool}{N:Nat→Prop}{c c':Cell}{v:Value}(hc:ZW S w bm st.boxes c v) (hr:Zjm st.boxes fl c=some c') (hv:∀ nm∈vwC fl c,nm∈V) (ho:∀ nm∈owC fl c,nm ∉ V)
  (hN:∀ nm b k C,okN nm=true→getB st.boxes nm=some b→bm nm=some (k,C)→N k) :
  ∃ its,ZfE (orS S (Yu bm st.boxes V)) w N its c' v∧Zq its=XO bm (owC fl c)∧∀ nm∈owC fl c,∃ b,getB st.boxes nm=some b:=by
 have hview:∀ {c1},Z8 st.boxes c=some c1→c'=c1.nn→(∀ nm∈nmC c,nm∈V)→owC fl c=[]→∃ its,ZfE (orS S (Yu bm st.boxes V)) w N its c' v∧Zq its=XO bm (owC fl c)∧∀ nm∈owC fl c,∃ b,getB st.boxes nm=some b:=by
  rintro c1 h1 rfl h2 h3
  refine⟨[],.pure (Zjp h hc h1 h2).nn,by rw[h3]; rfl,by rw[h3]; simp⟩
 cases c with
 | ms nm ver i n e =>
  simp only[Zjm] at hr;cases fl with
  | false =>
   simp only[Bool.false_eq_true,if_false,Option.map_eq_some_iff] at hr;obtain⟨c1,h1,rfl⟩:=hr;exact hview h1 rfl (by simpa[vwC,nmC] using hv) rfl
  | true =>
   simp only[if_true] at hr;split at hr
   ·rename_i b hb
    split at hr <;> simp at hr
    rename_i hcond;obtain⟨hver,hf,hrow,hbe,he0,hi,hn,hok,hpu⟩:=hcond;subst hr hver hi;obtain⟨its,r1,r2⟩:=Zps h hc hb hf hbe hn hok hpu (ho nm (by simp[owC])) (fun k C hk=>hN nm b k C hok hb hk);exact⟨its,r1,by simpa[owC] using r2,fun m hm=>by simp[owC] at hm; subst hm; exact⟨b,hb⟩⟩
   ·simp at hr
 | fv nm ver off n e =>
  simp only[Zjm,Option.map_eq_some_iff] at hr;obtain⟨c1,h1,rfl⟩:=hr;exact hview h1 rfl (by simpa[vwC,nmC] using hv) rfl
 | v x =>
  simp only[Zjm,Option.map_eq_some_iff] at hr;obtain⟨c1,h1,rfl⟩:=hr;exact hview h1 rfl (by simp[nmC]) rfl
 | slice o els =>
  simp only[Zjm,Option.map_eq_some_iff] at hr;obtain⟨c1,h1,rfl⟩:=hr;exact hview h1 rfl (by simp[nmC]) rfl
 | own e els=>simp[Zjm,Z8] at hr
 | bad=>simp[Zjm,Z8] at hr
 | mp nm ver=>simp[Zjm,Z8] at hr
theorem Zpw (h:Zl G B ks w0 S0 S bm st a w){V:List Nat}{fl:Bool}{N:Nat→Prop}(hN:∀ nm b k C,okN nm=true→getB st.boxes nm=some b→bm nm=some (k,C)→N k):∀ {cs cs':List Cell}{vs:List Value},Zk (ZW S w bm st.boxes) cs vs→ZgT st.boxes fl cs=some cs'→(∀ nm∈vwL fl cs,nm∈V)→(∀ nm∈owL fl cs,nm ∉ V) →
  ∃ its,ZeX (orS S (Yu bm st.boxes V)) w N its cs' vs∧Zq its=XO bm (owL fl cs)∧∀ nm∈owL fl cs,∃ b,getB st.boxes nm=some b
 | [],cs',vs,hc,hr,_,_=>by cases hc; simp[ZgT] at hr; subst hr; exact⟨[],.nil,rfl,by simp[owL]⟩
 | c :: cs,cs',vs,hc,hr,hv,ho=>by
  cases hc with
  | cons h1 h2 =>
   simp only[ZgT] at hr;split at hr <;> simp at hr
   rename_i d ds e1 e2;subst hr;simp only[vwL,owL,List.flatMap_cons,List.mem_append] at hv ho;obtain⟨i1,r1,r2,r3⟩:=Zsw h h1 e1 (fun nm hn=>hv nm (.inl hn)) (fun nm hn=>ho nm (.inl hn)) hN;obtain⟨i2,q1,q2,q3⟩:=Zpw h hN h2 e2 (fun nm hn=>hv nm (.inr hn)) (fun nm hn=>ho nm (.inr hn));refine⟨i1++i2,.cons r1 q1,by simp only[owL,List.flatMap_cons]; rw[Ym,Zb7,r2,q2]; rfl,?_⟩;simp only[owL,List.flatMap_cons,List.mem_append];rintro nm (hn | hn)
   ·exact r3 nm hn
   ·exact q3 nm hn
theorem Zxl (h:Zl G B ks w0 S0 S bm st a w){V:List Nat}{fl:Bool}{N:Nat→Prop}(hN:∀ nm b k C,okN nm=true→getB st.boxes nm=some b→bm nm=some (k,C)→N k){p q:PV}{v:Value}(hp:X9 S w bm st.boxes p v) (hr:ZiP st.boxes fl p=some q) (hv:∀ nm∈vwP st.boxes fl p,nm∈V) (ho:∀ nm∈owP st.boxes fl p,nm ∉ V) :
  ∃ its,ZiQ (orS S (Yu bm st.boxes V)) w N its q v∧Zq its=XO bm (owP st.boxes fl p)∧∀ nm∈owP st.boxes fl p,∃ b,getB st.boxes nm=some b:=by
 cases hp with
 | tup hp=>simp[ZiP] at hr
 | base hp=>cases hp with
  | one hp =>
   simp only[ZiP,Option.map_eq_some_iff] at hr;obtain⟨c',h1,rfl⟩:=hr;obtain⟨its,r1,r2,r3⟩:=Zsw h hp h1 hv ho hN;exact⟨its,.one r1,r2,r3⟩
  | agg hp =>
   simp only[ZiP,Option.map_eq_some_iff] at hr;obtain⟨c',h1,rfl⟩:=hr;obtain⟨its,r1,r2,r3⟩:=Zpw h hN hp h1 hv ho;exact⟨its,.agg r1,r2,r3⟩
  | ptr nm ver i off e k hmap hk =>
   cases i with
   | succ i=>simp[ZiP] at hr
   | zero=>cases off with
    | succ off=>simp[ZiP] at hr
    | zero =>
     simp only[ZiP] at hr;split at hr
     ·rename_i b hb
      split at hr
      ·rename_i cs hels
       split at hr <;> simp at hr
       rename_i hc;obtain⟨cs',hr,rfl⟩:=hr;obtain⟨hfl,hver,hf,hrow,hn⟩:=hc;obtain⟨b',q1,q2,q3⟩:=hk;rw[hb] at q1;injection q1 with q1;subst q1;obtain⟨_,C,hbm⟩:=q3 hver;have hic:Zcz st.boxes nm=cs:=by simp[Zcz,hb,hels]
       simp only[vwP,owP,hic,List.mem_cons] at hv ho ⊢;obtain⟨arr,Ty,us,a1,a2,a3⟩:=h.varOf hmap hb hbm hels;obtain⟨its,r1,r2,r3⟩:=Zpw h hN a3 hr hv (fun nm hn=>ho nm (.inr hn));obtain⟨hes,_,hB⟩:=h.boxes nm b hb;rw[hbm] at hB
       have hnS:∀ o,¬ orS S (Yu bm st.boxes V) k o:=by
        rintro o (hs | ⟨m,hm,bm',Cm,g1,g2,g3⟩)
        ·have:=(hB.free o hs).1; rw[hf] at this; simp at this
        ·have:=h.inj nm m b bm' k C Cm hb g1 hbm g2
         subst this;exact ho nm (.inl rfl) hm
       have:=ZiQ.io (N:=N) cs' k (hN nm b k C hn hb hbm) ⟨arr,Ty,us,a1,a2,r1,hnS⟩;have hr2:=r2;refine⟨some (k,1) :: its,by simpa using this,?_,?_⟩
       ·show k :: Zq its=_
        rw[hr2];simp[XO,hbm]
       ·rintro m (rfl | hm)
        ·exact⟨b,hb⟩
        ·exact r3 m hm
      ·simp at hr
     ·simp at hr
  | undef=>simp[ZiP] at hr
  | skip=>simp[ZiP] at hr
  | ref=>simp[ZiP] at hr
  | fn=>simp[ZiP] at hr
  | clo=>simp[ZiP] at hr
theorem Zrb (h:Zl G B ks w0 S0 S bm st a w){V:List Nat}{fl:Bool}{N:Nat→Prop}(hN:∀ nm b k C,okN nm=true→getB st.boxes nm=some b→bm nm=some (k,C)→N k):∀ {ps qs:List PV}{vs:List Value},Zk (X9 S w bm st.boxes) ps vs→ZnM st.boxes fl ps=some qs→(∀ nm∈ps.flatMap (vwP st.boxes fl),nm∈V)→(∀ nm∈ps.flatMap (owP st.boxes fl),nm ∉ V) →
  ∃ its,ZkI (orS S (Yu bm st.boxes V)) w N its qs vs∧Zq its=XO bm (ps.flatMap (owP st.boxes fl))∧∀ nm∈ps.flatMap (owP st.boxes fl),∃ b,getB st.boxes nm=some b
 | [],qs,vs,hc,hr,_,_=>by cases hc; simp[ZnM] at hr; subst hr; exact⟨[],.nil,rfl,by simp⟩
 | c :: cs,qs,vs,hc,hr,hv,ho=>by
  cases hc with
  | cons h1 h2 =>
   simp only[ZnM] at hr;split at hr <;> simp at hr
   rename_i d ds e1 e2;subst hr;simp only[List.flatMap_cons,List.mem_append] at hv ho;obtain⟨i1,r1,r2,r3⟩:=Zxl h hN h1 e1 (fun nm hn=>hv nm (.inl hn)) (fun nm hn=>ho nm (.inl hn));obtain⟨i2,q1,q2,q3⟩:=Zrb h hN h2 e2 (fun nm hn=>hv nm (.inr hn)) (fun nm hn=>ho nm (.inr hn));refine⟨i1++i2,.cons r1 q1,by simp only[List.flatMap_cons]; rw[Ym,Zb7,r2,q2],?_⟩;simp only[List.flatMap_cons,List.mem_append];rintro nm (hn | hn)
   ·exact r3 nm hn
   ·exact q3 nm hn
theorem Zv3 (h:Zl G B ks w0 S0 S bm st a w){V:List Nat}{N:Nat→Prop}(hN:∀ nm b k C,okN nm=true→getB st.boxes nm=some b→bm nm=some (k,C)→N k){c0 c c':Cell}{v:Value}(hc:ZW S w bm st.boxes c v) (hr:ZnN st.boxes c0 c=some c') (hv:∀ nm∈backV c0 c,nm∈V) (ho:∀ nm∈backO c0 c,nm ∉ V) :
  ∃ its,ZfE (orS S (Yu bm st.boxes V)) w N its c' v∧Zq its=XO bm (backO c0 c)∧∀ nm∈backO c0 c,∃ b,getB st.boxes nm=some b:=by
 unfold ZnN at hr;split at hr
 ·rename_i e _ nm ver i n e'
  split at hr
  ·rename_i b hb
   split at hr <;> simp at hr
   rename_i hcond;obtain⟨hver,hf,hrow,hbe,he',he0,hi,hn,hok,hpu⟩:=hcond;subst hr hver hi he';obtain⟨its,r1,r2⟩:=Zps h hc hb hf hbe hn hok hpu (ho nm (by simp[backO])) (fun k C hk=>hN nm b k C hok hb hk);exact⟨its,r1,by simpa[backO] using r2,fun m hm=>by simp[backO] at hm; subst hm; exact⟨b,hb⟩⟩
  ·simp at hr
 ·simp at hr
  subst hr;cases hc with
  | pure hc=>cases hc with
   | nil x=>exact⟨[none],.none _ x,by simp[Zq,XO,backO],by simp[backO]⟩
 ·simp at hr
 ·have hno:∀ e l,c0≠.own e l:=by
   rintro e l rfl
   simp_all
  have e1:backO c0 c=[]:=by
   unfold backO;split
   ·exact absurd rfl (hno _ _)
   ·rfl
  have e2:backV c0 c=nmC c:=by
   unfold backV;split
   ·exact absurd rfl (hno _ _)
   ·rfl
  rw[e2] at hv;rw[e1];simp only[Option.map_eq_some_iff] at hr;obtain⟨c1,h2,rfl⟩:=hr;exact⟨[],.pure (Zjp h hc h2 hv).nn,rfl,by simp⟩
theorem Zrc (h:Zl G B ks w0 S0 S bm st a w){V:List Nat}{N:Nat→Prop}(hN:∀ nm b k C,okN nm=true→getB st.boxes nm=some b→bm nm=some (k,C)→N k):∀ {cs0 cs cs':List Cell}{vs:List Value},Zk (ZW S w bm st.boxes) cs vs→Zde st.boxes cs0 cs=some cs'→(∀ nm∈backVL cs0 cs,nm∈V)→(∀ nm∈backOL cs0 cs,nm ∉ V) →
  ∃ its,ZeX (orS S (Yu bm st.boxes V)) w N its cs' vs∧Zq its=XO bm (backOL cs0 cs)∧∀ nm∈backOL cs0 cs,∃ b,getB st.boxes nm=some b
 | [],[],cs',vs,hc,hr,_,_=>by cases hc; simp[Zde] at hr; subst hr; exact⟨[],.nil,rfl,by simp[backOL]⟩
 | [],_ :: _,cs',vs,hc,hr,_,_=>by simp[Zde] at hr
 | _ :: _,[],cs',vs,hc,hr,_,_=>by simp[Zde] at hr
 | c0 :: cs0,c :: cs,cs',vs,hc,hr,hv,ho=>by
  cases hc with
  | cons h1 h2 =>
   simp only[Zde] at hr;split at hr <;> simp at hr
   rename_i d ds e1 e2;subst hr;simp only[backVL,backOL,List.mem_append] at hv ho ⊢;obtain⟨i1,r1,r2,r3⟩:=Zv3 h hN h1 e1 (fun nm hn=>hv nm (.inl hn)) (fun nm hn=>ho nm (.inl hn));obtain⟨i2,q1,q2,q3⟩:=Zrc h hN h2 e2 (fun nm hn=>hv nm (.inr hn)) (fun nm hn=>ho nm (.inr hn));refine⟨i1++i2,.cons r1 q1,by rw[Ym,Zb7,r2,q2],?_⟩;rintro nm (hn | hn)
   ·exact r3 nm hn
   ·exact q3 nm hn
def ioCs:List PV→List (List Cell)
 | []=>[]
 | .io cs :: ps=>cs :: ioCs ps
 | .rio _ els :: ps=>els.flatten :: ioCs ps
 | _ :: ps=>ioCs ps
theorem Yf.ioLen {ks hs:List Nat}{ps:List PV}{vs:List Value}(h:Yf S w ks hs ps vs):ks.length=(ioCs ps).length:=by
 induction h with
 | nil=>rfl
 | one _ _ ih=>exact ih
 | agg _ _ ih=>exact ih
 | fn _ ih=>exact ih
 | ref _ _ _ _ _ _ _ ih=>exact ih
 | clo _ _ ih=>exact ih
 | io _ _ ih=>simp[ioCs,ih]
 | rio _ _ _ _ ih=>simp[ioCs,ih]
 | rio0 _ _ _ ih=>simp[ioCs,ih]
theorem ioBack_box:∀ {ps:List PV}{k:Nat}{r:List (List Cell)×List Nat×List Nat},Zc2 bx k ps=some r→∀ j,j<(ioCs ps).length→1000000+k+j<2000000∧∃ b,getB bx (1000000+k+j)=some b∧b.frz=false∧b.ver=0
 | [],k,r,_,j,hj=>by simp[ioCs] at hj
 | p :: ps,k,r,h,j,hj=>by
  have hskip:(∀ cs,p≠.io cs)→(∀ e els,p≠.rio e els)→1000000+k+j<2000000∧∃ b,getB bx (1000000+k+j)=some b∧b.frz=false∧b.ver=0:=by
   intro hp hp2;have h1:Zc2 bx k (p :: ps)=Zc2 bx k ps:=by cases p <;> first | rfl | (exact absurd rfl (hp _)) | (exact absurd rfl (hp2 _ _))
   have h2:ioCs (p :: ps)=ioCs ps:=by cases p <;> first | rfl | (exact absurd rfl (hp _)) | (exact absurd rfl (hp2 _ _))
   rw[h1] at h;rw[h2] at hj;exact ioBack_box h j hj
  cases p with
  | io cs0 =>
   simp only[Zc2] at h;split at h
   ·rename_i b r' ow vw hg hr
    split at h
    ·rename_i cs hels
     split at h
     ·rename_i hc
      cases j with
      | zero=>exact⟨hc.2.2,b,hg,hc.2.1,hc.1⟩
      | succ j =>
       have:=ioBack_box hr j (by simpa[ioCs] using hj)
       rwa[show 1000000+k+(j+1)=1000000+(k+1)+j by omega]
     ·simp at h
    ·simp at h
   ·simp at h
  | rio e0 els0 =>
   simp only[Zc2] at h;split at h
   ·rename_i b r' ow vw hg hr
    split at h
    ·rename_i hc
     obtain⟨hv0,hf0,_,_,_,_,hlt⟩:=hc;cases j with
     | zero=>exact⟨hlt,b,hg,hf0,hv0⟩
     | succ j =>
      have:=ioBack_box hr j (by simpa[ioCs] using hj)
      rwa[show 1000000+k+(j+1)=1000000+(k+1)+j by omega]
    ·simp at h
   ·simp at h
  | _=>exact hskip (by simp) (by simp)
theorem ioIn_len:∀ {ps:List PV}{k j:Nat},(ioIn k j ps).1.length=ps.length
 | [],k,j=>rfl
 | p :: ps,k,j=>by cases p <;> simp[ioIn,ioIn_len]
theorem Zux (h:Zl G B ks w0 S0 S bm st a w){V kv:List Nat}{N:Nat→Prop}(hN:∀ nm b k C,okN nm=true→getB st.boxes nm=some b→bm nm=some (k,C)→N k) (hVn:∀ nm∈V,okN nm=true) (hkv:∀ (j k:Nat),kv[j]? = some k→ks[j]? = some k){S1:Nat→Nat→Prop}{w1:World}(hB1:B=w1.heap.size) :
  ∀ {hs:List Nat}{ps:List PV}{vs:List Value}{k:Nat}{outs:List (List Cell)}{ow vw:List Nat},Yf S1 w1 (kv.drop k) hs ps vs→Zc2 st.boxes k ps=some (outs,ow,vw)→(∀ nm∈vw,nm∈V)→(∀ nm∈ow,nm ∉ V) →
   ∃ jts,Zco (orS S (Yu bm st.boxes V)) w N B (kv.drop k) ps vs jts outs∧Zq jts=XO bm ow∧∀ nm∈ow,∃ b,getB st.boxes nm=some b:=by
 intro hs ps vs k outs ow vw hA;generalize hd:kv.drop k=kd at hA;induction hA generalizing k outs ow vw with
 | nil =>
  intro hb hv ho;simp[Zc2] at hb
  obtain⟨rfl,rfl,rfl⟩:=hb;exact⟨[],.nil,rfl,by simp⟩
 | one _ _ ih =>
  intro hb hv ho;obtain⟨jts,i1,i2⟩:=ih hd hb hv ho;exact⟨jts,.skip (by simp) (by simp) i1,i2⟩
 | agg _ _ ih =>
  intro hb hv ho;obtain⟨jts,i1,i2⟩:=ih hd hb hv ho;exact⟨jts,.skip (by simp) (by simp) i1,i2⟩
 | fn _ ih =>
  intro hb hv ho;obtain⟨jts,i1,i2⟩:=ih hd hb hv ho;exact⟨jts,.skip (by simp) (by simp) i1,i2⟩
 | ref _ _ _ _ _ _ _ ih =>
  intro hb hv ho;obtain⟨jts,i1,i2⟩:=ih hd hb hv ho;exact⟨jts,.skip (by simp) (by simp) i1,i2⟩
 | clo _ _ ih =>
  intro hb hv ho;obtain⟨jts,i1,i2⟩:=ih hd hb hv ho;exact⟨jts,.skip (by simp) (by simp) i1,i2⟩
 | io _ _ ih =>
  rename_i ks1 hs1 its1 cs0 k1 ps vs _ _;intro hb hv ho;simp only[Zc2] at hb;split at hb
  ·rename_i b r ow' vw' hg hr
   split at hb
   ·rename_i cs hels
    split at hb
    ·rename_i hc
     split at hb <;> simp at hb
     rename_i ds hds;obtain⟨rfl,rfl,rfl⟩:=hb;simp only[List.mem_append] at hv ho
     have hkl:k<kv.length:=by
      have:=congrArg List.length hd;simp at this
      omega
     rw[List.drop_eq_getElem_cons hkl] at hd;injection hd with hd1 hd2;have hmap:ZB (1000000+k)=false:=Zdn (by have:=hc.2.2; omega);obtain⟨hes,_,hB⟩:=h.boxes _ b hg;obtain⟨jts,i1,i2,i3⟩:=ih hd2 hr (fun nm hn=>hv nm (.inr hn)) (fun nm hn=>ho nm (.inr hn));cases hbm:bm (1000000+k) with
     | none=>rw[hbm] at hB; simp[hels] at hB
     | some kc =>
      obtain⟨kk,C⟩:=kc;rw[hbm] at hB
      have hkk:k1=kk:=by
       rcases hB.base with ⟨h',_⟩ | ⟨_,h'⟩
       ·exact absurd ⟨by omega,hc.2.2⟩ h'
       ·have:=hkv k kv[k] (List.getElem?_eq_getElem hkl)
        rw[show 1000000+k-1000000=k by omega,this,hd1] at h';simpa using h'
      rw[hkk];obtain⟨arr,Ty,us,a1,a2,a3⟩:=h.varOf hmap hg hbm hels;obtain⟨its,r1,r2,r3⟩:=Zrc h hN a3 hds (fun nm hn=>hv nm (.inl hn)) (fun nm hn=>ho nm (.inl hn));refine⟨its++jts,.io ⟨arr,Ty,us,a1,a2,r1,fun o hs=>?_⟩ i1,by rw[Ym,Zb7,r2,i2],?_⟩
      ·rcases hs with hs | ⟨m,hm,b',C',g1,g2,g3⟩
       ·have:=(hB.free o hs).1; rw[hc.2.1] at this; simp at this
       ·have:=h.inj (1000000+k) m b b' kk C C' hg g1 hbm g2
        subst this;exact ZcA (hVn _ hm) ⟨by omega,hc.2.2⟩
      ·intro nm hn
       rcases List.mem_append.1 hn with hn | hn
       ·exact r3 nm hn
       ·exact i3 nm hn
    ·simp at hb
   ·simp at hb
  ·simp at hb
 | rio hlen he0 hown _ ih =>
  rename_i ks1 hs1 e0 els0 n0 k1 C0 ps vs _;intro hb hv ho;simp only[Zc2] at hb;split at hb
  ·rename_i b r ow' vw' hg hr
   split at hb <;> simp at hb
   rename_i hc;obtain⟨hv0,hf0,hrow,hbe,hbl,hpu,hlt⟩:=hc;obtain⟨rfl,rfl,rfl⟩:=hb
   have hkl:k<kv.length:=by
    have:=congrArg List.length hd;simp at this
    omega
   rw[List.drop_eq_getElem_cons hkl] at hd;injection hd with hd1 hd2;have hmap:ZB (1000000+k)=false:=Zdn (by omega);obtain⟨hes,_,hB⟩:=h.boxes _ b hg;have hk1:k1<B:=by rw[hB1]; exact hown.lt
   have hksk:=hkv k kv[k] (List.getElem?_eq_getElem hkl);rw[hd1] at hksk;obtain⟨jts,i1,i2⟩:=ih hd2 hr hv ho;cases hbm:bm (1000000+k) with
   | none =>
    rw[hbm] at hB;obtain⟨k2,g1,g2⟩:=hB.2.2.2 ⟨by omega,hlt⟩;rw[show 1000000+k-1000000=k by omega,hksk] at g1;injection g1 with g1;omega
   | some kc =>
    obtain⟨kk,C⟩:=kc;rw[hbm] at hB
    have hkk:k1=kk:=by
     rcases hB.base with ⟨h',_⟩ | ⟨_,h'⟩
     ·exact absurd ⟨by omega,hlt⟩ h'
     ·rw[show 1000000+k-1000000=k by omega,hksk] at h'
      simpa using h'
    subst hkk;obtain⟨arr,Ty,a1,a2,a3⟩:=hB.blk hmap;refine⟨jts,.rio hk1 ⟨⟨arr,Ty,a1,fun i c v hc hv=>?_⟩,by rw[← hbe]; exact hes hmap,fun o hs=>?_⟩ hbl i1,i2⟩
    ·have hpu':c.pureB=true:=by
      have:=ZhU hpu;simp only[Yd,List.all_eq_true] at this;exact this c (List.mem_of_getElem? hc)
     exact((a3 i c v hc hv).pureC hpu').mono (fun _ _ h=>.inl h) (fun _ _ _=>rfl)
    ·rcases hs with hs | ⟨m,hm,b',C',g1,g2,g3⟩
     ·have:=(hB.free o hs).1; rw[hf0] at this; simp at this
     ·have:=h.inj (1000000+k) m b b' k1 C C' hg g1 hbm g2
      subst this;exact ZcA (hVn _ hm) ⟨by omega,hlt⟩
  ·simp at hb
 | rio0 he0 hk0 _ ih =>
  rename_i ks1 hs1 e0 k1 x0 ps vs _;intro hb hv ho;simp only[Zc2] at hb;split at hb
  ·rename_i b r ow' vw' hg hr
   split at hb <;> simp at hb
   rename_i hc;obtain⟨hv0,hf0,hrow,hbe,hbl,hpu,hlt⟩:=hc;obtain⟨rfl,rfl,rfl⟩:=hb
   have hkl:k<kv.length:=by
    have:=congrArg List.length hd;simp at this
    omega
   rw[List.drop_eq_getElem_cons hkl] at hd;injection hd with hd1 hd2;have hz:b.els=[]:=List.length_eq_zero_iff.1 (by simpa using hbl);obtain⟨jts,i1,i2⟩:=ih hd2 hr hv ho;rw[hz];exact⟨jts,.rio0 (by omega) i1,i2⟩
  ·simp at hb
inductive PvA (S:Nat→Nat→Prop) (w:World) (ch:List Chg):PV→Value→Prop
 | ok {p v}:ZiS S w true ch p v→PvA S w ch p v
 | ref {cs}(b o:Nat) (us:List Value):ZU S w cs us→(∀ j,j<us.length→S b (o+j))→Zcm w b o us→PvA S w ch (.ref cs) (.pointer (some ⟨b,o,none⟩))
 | fn (f:FuncId):PvA S w ch (.fn f) (.func (.func f) #[] #[])
 | clo {f qs us}:Zk (Zk9 S w) qs us→PvA S w ch (.clo f qs) (.func (.func f) #[] us.toArray)
theorem PvA.mono {ch ch':List Chg}{p:PV}{v:Value}(h:PvA S w ch p v) (hs:∀ g∈ch,g∈ch'):PvA S w ch' p v:=by
 cases h with
 | ok h=>exact .ok (h.mono hs)
 | ref b o us h1 h2 h3=>exact .ref b o us h1 h2 h3
 | fn f=>exact .fn f
 | clo h=>exact .clo h
theorem PvA.repV {ch:List Chg}{p:PV}{v:Value}(h:PvA S w ch p v) (hch:∀ g∈ch,bm g.nm=g.x∧getB bx g.nm=some g.b∧ZB g.nm=false):X9 S w bm bx p v:=by
 cases h with
 | ok h=>exact .base (h.repB (fun _ _ _ h=>h) hch)
 | ref b o us h1 h2 h3=>exact .base (.ref b o us h1 h2 h3)
 | fn f=>exact .base (.fn f)
 | clo h=>exact .base (.clo (Zk.mono h fun _ _ h=>h.toB))
theorem Yf.land {kv hs:List Nat}{ps:List PV}{vs:List Value}(h:Yf S w kv hs ps vs):∀ {k j:Nat},
  ∃ (cv cr:List Chg),(ioIn k j ps).2.1=cv.map Chg.nb∧(ioIn k j ps).2.2=cr.map Chg.nb∧(Zq (cv.map (·.x))).Sublist kv∧Zq (cr.map (·.x))=hs∧ZdH S w true (fun _=>True) [] cr ∧
   (∀ g∈cv,(∃ i kk,g.nm=1000000+k+i∧kv[i]? = some kk∧((∃ C,g.x=some (kk,C))∨(g.x=none∧w.heap.size≤kk)))∧∀ ch',(∀ g∈cr,g∈ch')→ZkJ S w true (fun _=>True) ch' g)∧Zk (PvA S w (cv++cr)) (ioIn k j ps).1 vs:=by
 induction h with
 | nil=>intro k j; exact⟨[],[],rfl,rfl,List.Sublist.refl _,rfl,.nil,by simp,.nil⟩
 | one h1 _ ih =>
  rename_i ks hs its c v ps vs _;intro k j;obtain⟨cv,cr,e1,e2,e3,e4,e5,e6,e7⟩:=ih (k:=k) (j:=j+1);obtain⟨c',ch,f1,f2,f3,f4,f5⟩:=h1.land (bx:=[]) (fz:=true) (by simp) (f:=ioN (1500000+j)) (k:=0) (cs:=[]) rfl;simp only[YA,List.append_nil] at f1 f2;have q1:(YA [] (ioN (1500000+j)) 0 [c]).1.headD c=c' := by rw[f1]; rfl
  refine⟨cv,ch++cr,e1,by simp only[ioIn]; rw[f2,e2,List.map_append],e3,by rw[List.map_append,Ym,f3,e4],f4.append e5,fun g hg=>⟨(e6 g hg).1,fun ch' hc=>(e6 g hg).2 ch' fun q hq=>hc q (List.mem_append_right _ hq)⟩,?_⟩;simp only[ioIn];rw[q1]
  exact .cons (.ok (.one (f5.mono fun g hg=>List.mem_append_right _ (List.mem_append_left _ hg)))) (Zk.mono e7 fun _ _ h=>h.mono fun g hg=>by
   rcases List.mem_append.1 hg with hg | hg
   ·exact List.mem_append_left _ hg
   ·exact List.mem_append_right _ (List.mem_append_right _ hg))
 | agg h1 _ ih =>
  intro k j;obtain⟨cv,cr,e1,e2,e3,e4,e5,e6,e7⟩:=ih (k:=k) (j:=j+1);obtain⟨ch,f1,f2,f3,f4⟩:=h1.land (bx:=[]) (fz:=true) (by simp) (f:=ioN (1500000+j)) (k:=0);refine⟨cv,ch++cr,e1,by simp only[ioIn]; rw[f1,e2,List.map_append],e3,by rw[List.map_append,Ym,f2,e4],f3.append e5,fun g hg=>⟨(e6 g hg).1,fun ch' hc=>(e6 g hg).2 ch' fun q hq=>hc q (List.mem_append_right _ hq)⟩,?_⟩;simp only[ioIn]
  exact .cons (.ok (.agg (Zk.mono f4 fun _ _ h=>h.mono fun g hg=>List.mem_append_right _ (List.mem_append_left _ hg)))) (Zk.mono e7 fun _ _ h=>h.mono fun g hg=>by
   rcases List.mem_append.1 hg with hg | hg
   ·exact List.mem_append_left _ hg
   ·exact List.mem_append_right _ (List.mem_append_right _ hg))
 | fn _ ih =>
  intro k j;obtain⟨cv,cr,e1,e2,e3,e4,e5,e6,e7⟩:=ih (k:=k) (j:=j+1);exact⟨cv,cr,e1,e2,e3,e4,e5,e6,.cons (.fn _) e7⟩
 | ref b o us h1 h2 h3 _ ih =>
  intro k j;obtain⟨cv,cr,e1,e2,e3,e4,e5,e6,e7⟩:=ih (k:=k) (j:=j+1);exact⟨cv,cr,e1,e2,e3,e4,e5,e6,.cons (.ref b o us h1 h2 h3) e7⟩
 | clo h1 _ ih =>
  intro k j;obtain⟨cv,cr,e1,e2,e3,e4,e5,e6,e7⟩:=ih (k:=k) (j:=j+1);exact⟨cv,cr,e1,e2,e3,e4,e5,e6,.cons (.clo h1) e7⟩
 | io h1 _ ih =>
  rename_i ks hs its cs kk ps vs _;intro k j;obtain⟨cv,cr,e1,e2,e3,e4,e5,e6,e7⟩:=ih (k:=k+1) (j:=j+1);obtain⟨ch,f1,f2,f3,f4⟩:=h1.land (bx:=[]) (fz:=true) (by simp) (nm:=1000000+k);refine⟨⟨1000000+k,⟨0,cs.length,[(YA [] (ioN (1000000+k)) 0 cs).1],false,false⟩,some (kk,1)⟩ :: cv,ch++cr,by simp only[ioIn]; rw[e1]; rfl,by simp only[ioIn]; rw[f1,e2,List.map_append],List.Sublist.cons_cons kk e3,by rw[List.map_append,Ym,f2,e4],f3.append e5,fun g hg=>?_,?_⟩
  ·rcases List.mem_cons.1 hg with rfl | hg
   ·exact⟨⟨0,kk,rfl,rfl,.inl ⟨1,rfl⟩⟩,fun ch' hc=>f4 ch' (fun q hq=>hc q (List.mem_append_left _ hq)) trivial 0⟩
   ·obtain⟨⟨i,k2,g1,g2,g3⟩,g4⟩:=e6 g hg
    exact⟨⟨i+1,k2,by omega,by simpa using g2,g3⟩,fun ch' hc=>g4 ch' fun q hq=>hc q (List.mem_append_right _ hq)⟩
  ·simp only[ioIn]
   refine .cons (.ok ?_) (Zk.mono e7 fun _ _ h=>h.mono fun g hg=>by
    rcases List.mem_append.1 hg with hg | hg
    ·exact List.mem_append_left _ (List.mem_cons_of_mem _ hg)
    ·exact List.mem_append_right _ (List.mem_append_right _ hg))
   exact ZiS.ptr ⟨1000000+k,⟨0,cs.length,[(YA [] (ioN (1000000+k)) 0 cs).1],false,false⟩,some (kk,1)⟩ kk cs.length (by simp) rfl
 | rio hlen he0 hown _ ih =>
  rename_i ks hs e els n k1 C ps vs _;intro k j;obtain⟨cv,cr,e1,e2,e3,e4,e5,e6,e7⟩:=ih (k:=k+1) (j:=j+1);refine⟨⟨1000000+k,⟨0,e,els,false,true⟩,some (k1,C)⟩ :: cv,cr,by simp only[ioIn]; rw[e1]; rfl,by simp only[ioIn]; exact e2,List.Sublist.cons_cons k1 e3,e4,e5,fun g hg=>?_,?_⟩
  ·rcases List.mem_cons.1 hg with rfl | hg
   ·refine⟨⟨0,k1,rfl,rfl,.inl ⟨C,rfl⟩⟩,fun ch' hc=>⟨rfl,hown.len,fun hx=>(by cases hx),fun k' C' hx=>?_⟩⟩
    injection hx with hx;injection hx with h1 h2;subst h1 h2;obtain⟨arr,T,a1,a2,a3⟩:=hown.blk;exact⟨trivial,⟨arr,T,a1,a2,fun i c v hc hv=>.inl ⟨a3 i c v hc hv,by simp⟩⟩,hown.room,hown.cap,fun hf=>(by cases hf),hown.free⟩
   ·obtain⟨⟨i,k2,g1,g2,g3⟩,g4⟩:=e6 g hg
    exact⟨⟨i+1,k2,by omega,by simpa using g2,g3⟩,g4⟩
  ·simp only[ioIn]
   refine .cons (.ok (.one (.inr ⟨⟨1000000+k,⟨0,e,els,false,true⟩,some (k1,C)⟩,by simp,els.length,_,C,rfl,?_,rfl,hown.room,hown.cap,rfl,rfl⟩))) (Zk.mono e7 fun _ _ h=>h.mono fun g hg=>by
    rcases List.mem_append.1 hg with hg | hg
    ·exact List.mem_append_left _ (List.mem_cons_of_mem _ hg)
    ·exact List.mem_append_right _ hg)
   rw[hlen]
 | rio0 he0 hk0 _ ih =>
  rename_i ks hs e k1 x ps vs _;intro k j;obtain⟨cv,cr,e1,e2,e3,e4,e5,e6,e7⟩:=ih (k:=k+1) (j:=j+1);refine⟨⟨1000000+k,⟨0,e,[],false,true⟩,none⟩ :: cv,cr,by simp only[ioIn]; rw[e1]; rfl,by simp only[ioIn]; exact e2,List.Sublist.cons k1 e3,e4,e5,fun g hg=>?_,?_⟩
  ·rcases List.mem_cons.1 hg with rfl | hg
   ·exact⟨⟨0,k1,rfl,rfl,.inr ⟨rfl,hk0⟩⟩,fun ch' hc=>⟨rfl,by simp,fun _=>⟨rfl,rfl⟩,fun k' C' hx=>(by cases hx)⟩⟩
   ·obtain⟨⟨i,k2,g1,g2,g3⟩,g4⟩:=e6 g hg
    exact⟨⟨i+1,k2,by omega,by simpa using g2,g3⟩,g4⟩
  ·simp only[ioIn]
   exact .cons (.ok (.one (.inr ⟨⟨1000000+k,⟨0,e,[],false,true⟩,none⟩,by simp,0,x,0,rfl,rfl,rfl,Nat.le_refl _,Nat.zero_le _,rfl,rfl⟩))) (Zk.mono e7 fun _ _ h=>h.mono fun g hg=>by
    rcases List.mem_append.1 hg with hg | hg
    ·exact List.mem_append_left _ (List.mem_cons_of_mem _ hg)
    ·exact List.mem_append_right _ hg)
def Okay (ps:List PV):Prop:=∃ S w ks hs vs,Yf S w ks hs ps vs
theorem ZnT (hm:P.follows .mixedOrders=true) (htt:∀ t i,tt t=some i→Z0 P t=some i) (hT:∀ f F,T f=some F→Zd9 P G (f % 1000000) F){f:FuncId}{fn:Func}{c:Code}
  (hf:P.funcs[f]? = some fn) (hb:fn.body=some c) (hname:(fn.name == "runtime.NumGoroutine")=false){F:List PV→Option (PV×List (List Cell))}
  (hF:∀ ps r,Okay ps→F ps=some r→∃ kp fl n,ZN tt T G kp fl n fn ps=some r):ZR P G f F:=by
 refine⟨⟨fn,hf,by rw[hb]; rfl,hname⟩,fun S w kv hs ps vs r outs hg hl hr hnd hFr=>?_⟩;obtain⟨kp,fl,n,hx⟩:=hF ps (r,outs) ⟨S,w,kv,hs,vs,hr⟩ hFr;unfold ZN at hx;rw[hb] at hx;simp only at hx;split at hx
 case isFalse=>simp at hx
 rename_i hchk;refine calls_of_wp hf hb ?_;have hioL:=hr.ioLen;obtain⟨cv,cr,l1,l2,l3,l4,l5,l6,l7⟩:=hr.land (k:=0) (j:=0);simp only[Zly,Bool.and_eq_true] at hchk;obtain⟨hc1,hc2⟩:=hchk;have hNm:∀ {l:List Chg},(l.map Chg.nb).map (·.1)=l.map (·.nm):=fun {l}=>by rw[List.map_map]; rfl
 rw[l1,l2,← List.map_append,hNm] at hc1;rw[l2,hNm] at hc2;have hndn:=nodupB_spec hc1
 have hrowOk:∀ g∈cr,okN g.nm=true:=fun g hgc=>by
  simp only[Zb5,List.all_eq_true] at hc2;exact hc2 _ (List.mem_map.2 ⟨g,hgc,rfl⟩)
 have hbx:Zk2 ps=ZZ [] ((cv++cr).map Chg.nb):=by unfold Zk2; rw[l1,l2,List.map_append]
 have hend:∀ {stF},ZkG tt fl fn ps stF=some (r,outs)→∃ x,Zc2 stF.boxes 0 ps=some x:=by
  intro stF hq;unfold ZkG at hq;split at hq
  ·split at hq
   ·rename_i hback; exact⟨_,hback⟩
   ·simp at hq
  ·simp at hq
 have hmapio:∀ j,j<kv.length→1000000+j<2000000:=by
  have key:∀ stF,ZkG tt fl fn ps stF=some (r,outs)→∀ j,j<kv.length→1000000+j<2000000:=by
   intro stF hq j hj;obtain⟨x,hback⟩:=hend hq;have:=(ioBack_box hback j (by omega)).1;omega
  split at hx
  ·rename_i stF _; exact key stF hx
  ·rename_i stF _; exact key stF hx
  ·simp at hx
 have hmp:∀ g∈cv++cr,ZB g.nm=false:=by
  intro g hgc;rcases List.mem_append.1 hgc with hgc | hgc
  ·obtain⟨⟨i,kk,e1,e2,_⟩,_⟩:=l6 g hgc
   have:=hmapio i (Zm e2);exact Zdn (by omega)
  ·exact ZbO (hrowOk g hgc)
 have hup:=upC_at (bm:=fun _=>none) hndn
 have hcons:∀ x∈(cv++cr).map Chg.nb,∀ y∈(cv++cr).map Chg.nb,x.1=y.1→x.2=y.2:=by
  intro x hx y hy he;obtain⟨g,hgc,rfl⟩:=List.mem_map.1 hx;obtain⟨g',hgc',rfl⟩:=List.mem_map.1 hy;rw[nodup_same hndn g hgc g' hgc' he]
 have hget:∀ g∈cv++cr,getB (ZZ [] ((cv++cr).map Chg.nb)) g.nm=some g.b:=fun g hgc=>getB_setBs_mem hcons (List.mem_map.2 ⟨g,hgc,rfl⟩)
 have hinv:∀ {nm b},getB (ZZ [] ((cv++cr).map Chg.nb)) nm=some b→∃ g∈cv++cr,g.nm=nm∧g.b=b:=by
  intro nm b hb;rcases getB_setBs_inv hb with ⟨b1,hm⟩ | ⟨_,hb0⟩
  ·obtain⟨g,hgc,hge⟩:=List.mem_map.1 hm
   injection hge with e1 e2;have:=hget g hgc;rw[e1,hb] at this;injection this with this;exact⟨g,hgc,e1,this.symm⟩
  ·simp[getB] at hb0
 have hok:∀ g∈cv++cr,ZkJ S w true (fun _=>True) (cv++cr) g:=by
  intro g hgc;rcases List.mem_append.1 hgc with hgc | hgc
  ·exact(l6 g hgc).2 _ fun q hq=>List.mem_append_right _ hq
  ·exact(l5 g hgc).2 _ fun q hq=>List.mem_append_right _ hq
 have hblk:(Zq ((cv++cr).map (·.x))).Nodup:=by rw[List.map_append,Ym,l4]; exact(l3.append (List.Sublist.refl hs)).nodup hnd
 have hrep:Zk (X9 S w (upC (fun _=>none) (cv++cr)) (ZZ [] ((cv++cr).map Chg.nb))) (ioIn 0 0 ps).1 vs:=Zk.mono l7 fun _ _ h=>h.repV fun g hgc=>⟨hup g hgc,hget g hgc,hmp g hgc⟩
 have hlenr:=hrep.length
 have hsim:Sim G w.heap.size (kv++hs) w S ⟨(ioIn 0 0 ps).1++List.replicate (fn.ntmps-ps.length) .skip,Zk2 ps⟩ { tmps:=vs.toArray++Array.replicate (fn.ntmps-vs.toArray.size) undef,defers:=[] } w:=by
  have hlen:=@ioIn_len ps 0 0;rw[hbx];refine⟨S,upC (fun _=>none) (cv++cr),rfl,by simp[hlenr]; omega,fun i p v hp hv=>?_,fun nm b hb=>?_,fun nm nm' b b' k C C' h1 h2 h3 h4=>?_,XE.refl _ _ _,Nat.le_refl _,fun _ _ h=>h,fun _ _ h=>.inl h,hl,hg,fun _ _=>trivial⟩
  ·simp only[List.getElem?_append] at hp
   simp only[Array.getElem?_append,List.size_toArray,List.getElem?_toArray] at hv;by_cases hi:i<(ioIn 0 0 ps).1.length
   ·rw[if_pos hi] at hp
    rw[if_pos (by omega)] at hv;obtain⟨v',hv',hrv⟩:=hrep.get hp;have:v'=v:=by rw[hv] at hv'; simpa using hv'.symm
    subst this;exact hrv
   ·rw[if_neg hi] at hp
    rw[if_neg (by omega)] at hv;simp[List.getElem?_replicate] at hp
    simp[Array.getElem?_replicate] at hv
    obtain⟨_,rfl⟩:=hp;obtain⟨_,rfl⟩:=hv;exact .base .skip
  ·obtain⟨g,hgc,rfl,rfl⟩:=hinv hb
   have hc:=hok g hgc;refine⟨fun _=>hc.len,fun hf=>(by rw[hc.frz] at hf; simp at hf),?_⟩;rw[hup g hgc];cases hgx:g.x with
   | none =>
    refine⟨(hc.void hgx).1,(hc.void hgx).2,hmp g hgc,fun hp=>?_⟩;rcases List.mem_append.1 hgc with hgc' | hgc'
    ·obtain⟨⟨i,kk,e1,e2,e3⟩,_⟩:=l6 g hgc'
     rcases e3 with ⟨C,e3⟩ | ⟨_,e3⟩
     ·rw[hgx] at e3; cases e3
     ·have hi:=Zm e2
      refine⟨kk,?_,e3⟩;rw[show g.nm-1000000=i by omega,List.getElem?_append_left hi];exact e2
    ·exact absurd hp (ZcA (hrowOk g hgc'))
   | some kc =>
    obtain⟨k,C⟩:=kc;obtain⟨_,⟨arr,Ty,a1,a2,a3⟩,hroom,hcap,hone,hfree⟩:=hc.blk k C hgx;refine⟨?_,⟨fun _=>⟨arr,Ty,a1,a2,fun i c v hc' hv=>(a3 i c v hc' hv).repM (fun _ _ _ h=>h) fun g hgc=>⟨hup g hgc,hget g hgc,hmp g hgc⟩⟩,fun hm=>ZcB hm (hmp g hgc)⟩,fun _=>hroom,hcap,fun o hs=>absurd hs (hfree o),fun hf=>(by rw[hc.frz] at hf; simp at hf),hone⟩;rcases List.mem_append.1 hgc with hgc' | hgc'
    ·obtain⟨⟨i,kk,e1,e2,e3⟩,_⟩:=l6 g hgc'
     have e3:k=kk:=by
      rcases e3 with ⟨C',e3⟩ | ⟨e3,_⟩
      ·rw[hgx] at e3
       injection e3 with e3;injection e3 with e3 _
      ·rw[hgx] at e3; cases e3
     subst e3;have hi:=Zm e2;have:=hmapio i hi;refine .inr ⟨⟨by omega,by omega⟩,?_⟩;rw[show g.nm-1000000=i by omega,List.getElem?_append_left hi];exact e2
    ·refine .inl ⟨ZcA (hrowOk g hgc'),.inr ⟨List.mem_append_right _ ?_,hmp g hgc⟩⟩
     rw[← l4];exact List.mem_filterMap.2 ⟨g.x,List.mem_map.2 ⟨g,hgc',rfl⟩,by rw[hgx]; rfl⟩
  ·obtain⟨g,hgc,rfl,rfl⟩:=hinv h1
   obtain⟨g',hgc',rfl,rfl⟩:=hinv h2;rw[hup g hgc] at h3;rw[hup g' hgc'] at h4;exact nodup_blk hblk g hgc g' hgc' k C C' h3 h4
 cases he:Yt tt T G kp n c ⟨(ioIn 0 0 ps).1++List.replicate (fn.ntmps-ps.length) .skip,Zk2 ps⟩ with
 | none=>simp[he] at hx
 | some rr =>
  obtain⟨ae,stF⟩:=rr;refine Code.wp_mono (fun e a' w' hp=>?_) (Zxk hm htt hT c _ _ _ _ he hsim);obtain⟨hee,S',bm,hsF⟩:=hp
  have hfin:ZkG tt fl fn ps stF=some (r,outs)→a'.defers=[]∧∃ v,(results fn a'.tmps).run P w' = .ok v w'∧∃ v' S'' its jts,Ending.returned v = .returned v'∧ZiR S'' w' (fun k=>w.heap.size≤k∨k∈hs) its r v'∧Zco S'' w' (fun k=>w.heap.size≤k∨k∈hs) w.heap.size kv ps vs jts outs∧(Zq jts++Zq its).Nodup∧ZnR S S'' w w' (kv++hs):=by
   intro hq;refine⟨hsF.dfr,?_⟩;obtain⟨x0,hback0⟩:=hend hq;have hpin:=fun j (hj:j<kv.length)=>ioBack_box hback0 j (by omega)
   have hN:∀ nm b k C,okN nm=true→getB stF.boxes nm=some b→bm nm=some (k,C)→w.heap.size≤k∨k∈hs:=by
    intro nm b k C hokn hgb hbm;obtain⟨_,_,hB⟩:=hsF.boxes nm b hgb;rw[hbm] at hB;rcases hB.base' with h' | ⟨h',_⟩
    ·exact .inl h'
    ·rcases List.mem_append.1 h' with h' | h'
     ·by_cases hkl:w.heap.size≤k
      ·exact .inl hkl
      exfalso
      obtain⟨j,hj⟩:=List.getElem?_of_mem h';have hjl:=Zm hj;obtain⟨hlt,b2,g1,g3,_⟩:=hpin j hjl;rw[show 1000000+0+j=1000000+j by omega] at g1 hlt;obtain⟨_,_,hB2⟩:=hsF.boxes _ b2 g1;cases hbm2:bm (1000000+j) with
      | none =>
       rw[hbm2] at hB2;obtain⟨k2,f1,f2⟩:=hB2.2.2.2 ⟨by omega,hlt⟩;rw[show 1000000+j-1000000=j by omega,List.getElem?_append_left hjl,hj] at f1;injection f1 with f1;omega
      | some kc =>
       obtain⟨k2,C2⟩:=kc;rw[hbm2] at hB2
       have hk2:k2=k:=by
        rcases hB2.base with ⟨h'',_⟩ | ⟨_,h''⟩
        ·exact absurd ⟨by omega,hlt⟩ h''
        ·rw[show 1000000+j-1000000=j by omega,List.getElem?_append_left hjl,hj] at h''
         injection h'' with h'';exact h''.symm
       subst hk2;have:=hsF.inj nm (1000000+j) b b2 k2 C C2 hgb g1 hbm hbm2;subst this;exact ZcA hokn ⟨by omega,hlt⟩
     ·exact .inr h'
   unfold ZkG at hq;split at hq
   ·rename_i qs0 hla
    split at hq
    ·rename_i qs outs' ow vw hqs hback
     split at hq <;> simp only[Option.some.injEq,reduceCtorEq,Prod.mk.injEq] at hq
     rename_i hc;obtain⟨rfl,rfl⟩:=hq;simp only[Bool.and_eq_true] at hc;obtain⟨⟨hc1,hc2⟩,hc3⟩:=hc;obtain⟨us,hus,hrs⟩:=ZoZ (P:=P) htt hsF hla
     have hres:(results fn a'.tmps).run P w' = .ok (if h:us.toArray.size=1 then us.toArray[0] else .tuple us.toArray) w' := by
      rw[Zts,Sem.run_bind,Array.mapM_eq_mapM_toList];simp only[Sem.run_map];rw[hus];simp
     generalize hV:vw++qs0.flatMap (vwP stF.boxes fl)=V at hc2 hc3
     have hVn:∀ nm∈V,okN nm=true:=by
      simp only[Zb5,List.all_eq_true] at hc3;exact hc3
     have hdis:∀ nm∈ow++qs0.flatMap (owP stF.boxes fl),nm ∉ V:=by
      intro nm hn;have:=List.all_eq_true.1 hc2 nm hn;simpa using this
     obtain⟨its,h1,h2,h3⟩:=Zrb hsF (N:=fun k=>w.heap.size≤k∨k∈hs) hN (V:=V) hrs hqs (fun nm hn=>by rw[← hV]; exact List.mem_append_right _ hn) (fun nm hn=>hdis nm (List.mem_append_right _ hn));obtain⟨jts,j1,j2,j3⟩:=Zux hsF (N:=fun k=>w.heap.size≤k∨k∈hs) hN hVn (kv:=kv) (fun j k hj=>by rw[List.getElem?_append_left (Zm hj)]; exact hj) rfl (k:=0) (by rw[List.drop_zero]; exact hr) hback (fun nm hn=>by rw[← hV]; exact List.mem_append_left _ hn) (fun nm hn=>hdis nm (List.mem_append_left _ hn));rw[List.drop_zero] at j1
     have hnd':(Zq jts++Zq its).Nodup:=by
      rw[j2,h2,← Zb7];refine Zmx hsF (nodupB_spec hc1) fun nm hn=>?_
      rcases List.mem_append.1 hn with hn | hn
      ·exact j3 nm hn
      ·exact h3 nm hn
     have hgrow:ZnR S (orS S' (Yu bm stF.boxes V)) w w' (kv++hs):=by
      refine⟨hsF.below,fun b o h=>.inl (hsF.mono b o h),fun b o h=>?_,fun b o h=>?_⟩
      ·rcases h with h | ⟨nm,hn,b',C,g1,g2,_⟩
       ·exact hsF.fresh b o h
       ·obtain⟨_,_,hB⟩:=hsF.boxes nm b' g1
        rw[g2] at hB;exact .inr (hB.base'.imp id (·.1))
      ·rcases h with h | ⟨nm,hn,b',C,g1,g2,_⟩
       ·exact hsF.slt b o h
       ·exact(hsF.boxes nm b' g1).lt g2
     refine⟨_,hres,_,orS S' (Yu bm stF.boxes V),its,jts,rfl,?_,j1,hnd',hgrow⟩;cases h1 with
     | nil=>exact .tup .nil
     | cons p1 p2 =>
      cases p2 with
      | nil =>
       simp only[List.append_nil];exact .base (by simpa[ret1] using p1)
      | cons p3 p4 =>
       have:ZiR (orS S' (Yu bm stF.boxes V)) w' (fun k=>w.heap.size≤k∨k∈hs) _ _ _:=.tup (.cons p1 (.cons p3 p4));simpa[ret1] using this
    ·simp at hq
   ·simp at hq
  rw[he] at hx;cases ae with
  | normal=>simp only[AE.to] at hee; subst hee; exact hfin hx
  | ret=>simp only[AE.to] at hee; subst hee; exact hfin hx
  | exit id=>simp at hx
end
def zr (n:Nat) (z:Zc):List Zc:=List.replicate n z
def ZmC (id:Nat):Code→Option Code
 | .region i ops d=>if i == id then some (.region i ops d) else none
 | .seq a b=>(match ZmC id a with | some c=>some c | none=>ZmC id b)
 | .cond _ a b=>(match ZmC id a with | some c=>some c | none=>ZmC id b)
 | .block _ c=>ZmC id c
 | .loop c=>ZmC id c
 | _=>none
def reg (fn:Func) (id:Nat):Code:=match fn.body with | some c=>(match ZmC id c with | some r=>r | none=>.skip) | none=>.skip
section
variable {tt:TT}{T:Tab}{G:Glob}{kp:Keep}{n:Nat}{st st1:ASt}{a b c d:Code}{Q Q':AE→ASt→Prop}
def Ztu (tt:TT) (T:Tab) (G:Glob) (kp:Keep) (n:Nat) (c:Code) (st:ASt) (Q:AE→ASt→Prop):Prop:=∃ e s,Yt tt T G kp n c st=some (e,s)∧Q e s
def ZkK (id:Nat) (Q:AE→ASt→Prop):AE→ASt→Prop
 | .exit id',s=>if id'=id then Q .normal s else Q (.exit id') s
 | e,s=>Q e s
def ZiT (K:ASt→Prop) (Q:AE→ASt→Prop):AE→ASt→Prop
 | .normal,s=>K s
 | e,s=>Q e s
theorem Ztu.mono (h:Ztu tt T G kp n c st Q) (hq:∀ e s,Q e s→Q' e s):Ztu tt T G kp n c st Q' := let ⟨e,s,h1,h2⟩:=h; ⟨e,s,h1,hq _ _ h2⟩
def bV (t:Bool):PV:=.one (.v (.bool t))
def YP (tt:TT) (w:Bool) (fn:Func) (args:List PV) (r:PV×List (List Cell)):AE→ASt→Prop
 | .ret,s=>ZkG tt w fn args s=some r
 | .normal,s=>ZkG tt w fn args s=some r
 | _,_=>False
theorem Zxm {fn:Func}{args:List PV}{w:Bool}{r:PV×List (List Cell)}(hb:fn.body=some c) (hc:Zly args=true) (h:Ztu tt T G kp n c ⟨(ioIn 0 0 args).1++List.replicate (fn.ntmps-args.length) .skip,Zk2 args⟩ (YP tt w fn args r)):ZN tt T G kp w n fn args=some r:=by
 obtain⟨e,s,h1,h2⟩:=h;unfold ZN;rw[hb];simp only[hc,if_true,h1];cases e with
 | normal=>exact h2
 | ret=>exact h2
 | exit id=>exact h2.elim
end
def Cell.stab:Cell→Bool
 | .v _=>true
 | .slice .no _=>true
 | _=>false
def Y8 (cs:List Cell):Bool:=cs.all Cell.stab
section
variable {bx:Boxes}{cs ds:List Cell}{d:Nat→Nat}{k:Nat}{ns:List Nat}{w:Bool}
@[simp] theorem stabL_nil:Y8 []=true:=rfl
@[simp] theorem Zb8 (c:Cell):Y8 (c :: cs)=(c.stab && Y8 cs):=rfl
@[simp] theorem stabL_append:Y8 (cs++ds)=(Y8 cs && Y8 ds):=by simp[Y8]
theorem Znl {c:Cell}(h:c.stab=true):c.pureB=true:=by
 cases c with
 | v x=>rfl
 | slice o els=>rfl
 | _=>simp[Cell.stab] at h
theorem Zo0 (h:Y8 cs=true):Yd cs=true:=by
 simp only[Y8,Yd,List.all_eq_true] at *;exact fun x hx=>Znl (h x hx)
theorem Zo1 {α:Type}{f:α→List Cell}(L:List α) (h:∀ a,Y8 (f a)=true):ZH (L.map f)=true:=by
 simp only[ZH,List.all_eq_true,List.mem_map];rintro l ⟨a,_,rfl⟩
 exact Zo0 (h a)
theorem Zoh {c:Cell}(h:c.pureB=true):Z8 bx c=some c:=by
 cases c <;> first | rfl | (simp[Cell.pureB] at h)
theorem Ztv (h:Y8 cs=true):XD bx cs=some cs:=by
 induction cs with
 | nil=>rfl
 | cons c cs ih =>
  simp only[Zb8,Bool.and_eq_true] at h;simp[XD,Zoh (Znl h.1),ih h.2]
theorem Zv4 (h:Y8 cs=true):nmL cs=[]:=by
 induction cs with
 | nil=>rfl
 | cons c cs ih =>
  simp only[Zb8,Bool.and_eq_true] at h;have hc:nmC c=[]:=by cases c <;> first | rfl | (simp[Cell.stab] at h)
  have:=ih h.2;unfold nmL at this ⊢;simp[hc,this]
theorem ZpZ (h:Y8 cs=true):ZgB bx ns cs=cs:=by
 induction cs with
 | nil=>rfl
 | cons c cs ih =>
  simp only[Zb8,Bool.and_eq_true] at h;have hc:Zka bx ns c=c:=by cases c <;> first | rfl | (simp[Cell.stab] at h)
  have:=ih h.2;unfold ZgB at this ⊢;simp[hc,this]
theorem Zv5 (h:Y8 cs=true):nnL cs=cs:=by
 induction cs with
 | nil=>rfl
 | cons c cs ih =>
  simp only[Zb8,Bool.and_eq_true] at h
  have hc:c.nn=c:=by
   cases c with
   | slice o els=>cases o <;> first | rfl | (simp[Cell.stab] at h)
   | _=>first | rfl | (simp[Cell.stab] at h)
  have:=ih h.2;unfold nnL at this ⊢;simp[hc,this]
theorem Ztw (h:Y8 cs=true):YA bx d k cs=(cs,[]):=by
 induction cs with
 | nil=>rfl
 | cons c cs ih =>
  simp only[Zb8,Bool.and_eq_true] at h;have:=ih h.2;cases c with
  | own=>simp[Cell.stab] at h
  | _=>simp[YA,this]
theorem Zuy (h:Y8 cs=true):ZgT bx w cs=some cs:=by
 induction cs with
 | nil=>rfl
 | cons c cs ih =>
  simp only[Zb8,Bool.and_eq_true] at h;have:=ih h.2
  have hc:Zjm bx w c=some c:=by
   cases c with
   | v x=>rfl
   | slice o els=>cases o <;> first | rfl | (simp[Cell.stab] at h)
   | _=>simp[Cell.stab] at h
  simp[ZgT,hc,this]
theorem Zv6 (h:Y8 cs=true):owL w cs=[]:=by
 induction cs with
 | nil=>rfl
 | cons c cs ih =>
  simp only[Zb8,Bool.and_eq_true] at h;have hc:owC w c=[]:=by cases c <;> first | rfl | (simp[Cell.stab] at h)
  have:=ih h.2;unfold owL at this ⊢;simp[hc,this]
theorem Zv7 (h:Y8 cs=true):vwL w cs=[]:=by
 induction cs with
 | nil=>rfl
 | cons c cs ih =>
  simp only[Zb8,Bool.and_eq_true] at h;have hc:vwC w c=[]:=by cases c <;> first | rfl | (simp[Cell.stab] at h)
  have:=ih h.2;unfold vwL at this ⊢;simp[hc,this]
theorem Zp0 {α:Type}{f:α→List Cell}(L:List α) (h:∀ a,Y8 (f a)=true):YV bx ns (L.map f)=L.map f:=by
 simp only[YV,List.map_map];apply List.map_congr_left
 intro a _;exact ZpZ (h a)
theorem viewL_append:XD bx (cs++ds)=(match XD bx cs,XD bx ds with | some a,some b=>some (a++b) | _,_=>none):=by
 induction cs with
 | nil=>simp[XD]; cases XD bx ds <;> rfl
 | cons c cs ih =>
  simp only[List.cons_append,XD,ih];cases Z8 bx c <;> cases XD bx cs <;> cases XD bx ds <;> rfl
theorem nmL_append:nmL (cs++ds)=nmL cs++nmL ds:=by simp[nmL]
theorem fixL_append:ZgB bx ns (cs++ds)=ZgB bx ns cs++ZgB bx ns ds:=by simp[ZgB]
theorem nnL_append:nnL (cs++ds)=nnL cs++nnL ds:=by simp[nnL]
theorem hasSlL_append:hasSlL (cs++ds)=(hasSlL cs || hasSlL ds):=by simp[hasSlL]
theorem owL_append:owL w (cs++ds)=owL w cs++owL w ds:=by simp[owL]
theorem vwL_append:vwL w (cs++ds)=vwL w cs++vwL w ds:=by simp[vwL]
theorem resL_append:ZgT bx w (cs++ds)=(match ZgT bx w cs,ZgT bx w ds with | some a,some b=>some (a++b) | _,_=>none):=by
 induction cs with
 | nil=>simp[ZgT]; cases ZgT bx w ds <;> rfl
 | cons c cs ih =>
  simp only[List.cons_append,ZgT,ih];cases Zjm bx w c <;> cases ZgT bx w cs <;> cases ZgT bx w ds <;> rfl
theorem Zn8 (h:Y8 cs=true):YA bx d k (cs++ds)=(cs++(YA bx d k ds).1,(YA bx d k ds).2):=by
 induction cs with
 | nil=>rfl
 | cons c cs ih =>
  simp only[Zb8,Bool.and_eq_true] at h;have:=ih h.2;cases c with
  | own=>simp[Cell.stab] at h
  | _=>simp[YA,this]
@[simp] theorem Zz8 (c:Cell):nmL (c :: cs)=nmC c++nmL cs:=rfl
@[simp] theorem nmL_nil:nmL []=[]:=rfl
@[simp] theorem ZzS (c:Cell):ZgB bx ns (c :: cs)=Zka bx ns c :: ZgB bx ns cs:=rfl
@[simp] theorem fixL_nil:ZgB bx ns []=[]:=rfl
@[simp] theorem Zz9 (c:Cell):nnL (c :: cs)=c.nn :: nnL cs:=rfl
@[simp] theorem nnL_nil:nnL []=[]:=rfl
@[simp] theorem Zy6 (c:Cell):hasSlL (c :: cs)=(c.hasSl || hasSlL cs):=rfl
@[simp] theorem hasSlL_nil:hasSlL []=false:=rfl
@[simp] theorem ZAa (c:Cell):owL w (c :: cs)=owC w c++owL w cs:=rfl
@[simp] theorem owL_nil:owL w []=[]:=rfl
@[simp] theorem ZAb (c:Cell):vwL w (c :: cs)=vwC w c++vwL w cs:=rfl
@[simp] theorem vwL_nil:vwL w []=[]:=rfl
@[simp] theorem Zzm (c:Cell):Yd (c :: cs)=(c.pureB && Yd cs):=rfl
@[simp] theorem pureL_nil:Yd []=true:=rfl
@[simp] theorem pureL_append:Yd (cs++ds)=(Yd cs && Yd ds):=by simp[Yd]
@[simp] theorem Zy7 (l:List Cell) (els:List (List Cell)):ZH (l :: els)=(Yd l && ZH els):=rfl
@[simp] theorem pureLL_nil:ZH []=true:=rfl
@[simp] theorem Zyd (a b:List (List Cell)):ZH (a++b)=(ZH a && ZH b):=by simp[ZH]
@[simp] theorem Zzn (l:List Cell) (els:List (List Cell)):YV bx ns (l :: els)=ZgB bx ns l :: YV bx ns els:=rfl
@[simp] theorem fixLL_nil:YV bx ns []=[]:=rfl
@[simp] theorem Zyq (a b:List (List Cell)):YV bx ns (a++b)=YV bx ns a++YV bx ns b:=by simp[YV]
theorem handL_none:Zba bx [] cs=XD bx cs:=by
 induction cs with
 | nil=>rfl
 | cons c cs ih =>
  have hc:Zet bx 0 c=Z8 bx c:=by cases c <;> rfl
  simp only[Zba,XD,ih,hc]
theorem lentL_none:lentL [] cs=nmL cs:=by
 induction cs with
 | nil=>rfl
 | cons c cs ih=>simp only[lentL,ih]; rfl
theorem hdL_none:hdL [] cs=[]:=by
 induction cs with
 | nil=>rfl
 | cons c cs ih=>simp only[hdL,ih]
theorem Zxn {n:Nat}{els:List (List Cell)}(h:n≤els.length):Zk0 n els=els.take n:=by
 unfold Zk0;split
 ·rename_i hn
  rw[hn,List.take_length]
 ·rfl
theorem Zuz {c0 d0:List Cell}(h:c0.length=cs.length):Zde bx (c0++d0) (cs++ds)=(match Zde bx c0 cs,Zde bx d0 ds with | some a,some b=>some (a++b) | _,_=>none):=by
 induction c0 generalizing cs with
 | nil =>
  have:cs=[]:=List.length_eq_zero_iff.1 h.symm;subst this;simp only[List.nil_append,Zde];cases Zde bx d0 ds <;> rfl
 | cons c c0 ih =>
  cases cs with
  | nil=>simp at h
  | cons x cs =>
   simp only[List.cons_append,Zde,ih (cs:=cs) (by simpa using h)];cases ZnN bx c x <;> cases Zde bx c0 cs <;> cases Zde bx d0 ds <;> rfl
theorem Ztx {c0 d0:List Cell}(h:c0.length=cs.length):backOL (c0++d0) (cs++ds)=backOL c0 cs++backOL d0 ds:=by
 induction c0 generalizing cs with
 | nil =>
  have:cs=[]:=List.length_eq_zero_iff.1 h.symm;subst this;rfl
 | cons c c0 ih =>
  cases cs with
  | nil=>simp at h
  | cons x cs=>simp only[List.cons_append,backOL,ih (cs:=cs) (by simpa using h),List.append_assoc]
theorem Zty {c0 d0:List Cell}(h:c0.length=cs.length):backVL (c0++d0) (cs++ds)=backVL c0 cs++backVL d0 ds:=by
 induction c0 generalizing cs with
 | nil =>
  have:cs=[]:=List.length_eq_zero_iff.1 h.symm;subst this;rfl
 | cons c c0 ih =>
  cases cs with
  | nil=>simp at h
  | cons x cs=>simp only[List.cons_append,backVL,ih (cs:=cs) (by simpa using h),List.append_assoc]
theorem ZmD {c0:List Cell}(h0:Y8 c0=true) (h:Y8 cs=true) (hl:c0.length=cs.length):Zde bx c0 cs=some cs∧backOL c0 cs=[]∧backVL c0 cs=[]:=by
 induction c0 generalizing cs with
 | nil =>
  have:cs=[]:=List.length_eq_zero_iff.1 hl.symm;subst this;exact⟨rfl,rfl,rfl⟩
 | cons c c0 ih =>
  cases cs with
  | nil=>simp at hl
  | cons x cs =>
   simp only[Zb8,Bool.and_eq_true] at h0 h;obtain⟨e1,e2,e3⟩:=ih (cs:=cs) h0.2 h.2 (by simpa using hl);have hn:∀ e l,c≠.own e l:=by rintro e l rfl; simp[Cell.stab] at h0
   have hx:(Z8 bx x).map Cell.nn=some x:=by
    rw[Zoh (Znl h.1)];have:=h.1;cases x with
    | v _=>rfl
    | slice o _=>cases o <;> first | rfl | (simp[Cell.stab] at this)
    | _=>simp[Cell.stab] at this
   have hb:ZnN bx c x=some x:=by
    cases c with
    | own e l=>exact absurd rfl (hn e l)
    | _=>exact hx
   have ho:backO c x=[]:=by
    cases c with
    | own e l=>exact absurd rfl (hn e l)
    | _=>rfl
   have hv:backV c x=[]:=by
    have hnm:nmC x=[]:=by have:=h.1; cases x <;> first | rfl | (simp[Cell.stab] at this)
    cases c with
    | own e l=>exact absurd rfl (hn e l)
    | _=>exact hnm
   simp only[Zde,backOL,backVL,hb,e1,e2,e3,ho,hv,List.nil_append,and_self]
theorem Zr9 {c0:List Cell}(h0:Y8 c0=true) (h:Y8 cs=true) (hl:c0.length=cs.length):Zde bx c0 cs=some cs:=(ZmD h0 h hl).1
theorem Zsa {c0:List Cell}(h0:Y8 c0=true) (h:Y8 cs=true) (hl:c0.length=cs.length):backOL c0 cs=[]:=(ZmD (bx:=[]) h0 h hl).2.1
theorem Zsb {c0:List Cell}(h0:Y8 c0=true) (h:Y8 cs=true) (hl:c0.length=cs.length):backVL c0 cs=[]:=(ZmD (bx:=[]) h0 h hl).2.2
theorem Ztz (h:Y8 cs=true):cs.all Cell.landB=true:=by
 simp only[Y8,List.all_eq_true] at *;intro x hx;have:=h x hx;cases x <;> first | rfl | (simp[Cell.stab] at this)
@[simp] theorem Zzo (c:Cell):(c :: cs).all Cell.landB=(c.landB && cs.all Cell.landB):=rfl
end
attribute [simp] handL_none lentL_none hdL_none Zxn Zuz Ztx Zty Zr9 Zsa Zsb Ztz
attribute [simp] Zet Zba ZeW hdC lentL hdL ZfB XR hdP Zdc Zcz ZjT okN ioN Zk2 Zly ZnN Zde backO backV backOL backVL Cell.landB
attribute [simp] viewL_append nmL_append fixL_append nnL_append hasSlL_append owL_append vwL_append resL_append
attribute [simp] Zo0 Ztv Zv4 ZpZ Zv5 Ztw Zuy Zv6 Zv7 Zo1 Zp0 Zn8
attribute [simp] capOk Zj9 ZkE nmK Ze5 ZkC ZB Zos Zk1 Zh8 Cell.isI isStr1 kKind kKind1 Zlx
attribute [simp] Zdd ZdF Zs5 Zhh Zot eff rd rds rdO Zdb Y5 Upd.app Upd.foot ASt.get PV.cells ZiO TI.agg ZC Zgc ofConst ofCell ofCells Zl1 ZcQ Zl2 ZkD idxOf Zes bin ZoP ZkZ ZnK Zik ZhS ZqN ZgS Zh7 Z8 XD nmC ZfA ZjS nmP ioP ioPs Zj1 ZqF ZfC
 YA Zhg ZhR ZkF hasSlP hasSlR Cell.hasSl nodupB Ze5 Zgd Ze6 Xw Zb5 Zr getB setB ZZ Zcl Zsp Zs6 ZoQ ZgF ZqO Zka mk1 ZqH isNil ZkP Zl3 Zjm ZgT ZiP ZnM owC vwC owP vwP ioIn Zc2 ret1 ZkG Cell.pureB Cell.stab Cell.nn PV.nnB Zc.cell Zjl cellEq cellsEq ZkK ZiT YP
@[simp] theorem pb_and (k:IntKind) (x y:Int):pureOf (Op.intBits .and k x y)=some (.int k (bits .and k x y)):=rfl
@[simp] theorem pb_or (k:IntKind) (x y:Int):pureOf (Op.intBits .or k x y)=some (.int k (bits .or k x y)):=rfl
@[simp] theorem pb_xor (k:IntKind) (x y:Int):pureOf (Op.intBits .xor k x y)=some (.int k (bits .xor k x y)):=rfl
@[simp] theorem ZzT (k:IntKind) (x y:Int):pureOf (Op.intBits .andNot k x y)=some (.int k (bits .andNot k x y)):=rfl
@[simp] theorem Zxo (a b:Int):(a == b)=decide (a=b):=by rw[Bool.eq_iff_iff]; simp
@[simp] theorem ZAJ (a b:Int):(a != b) = !decide (a=b):=by rw[bne,Zxo]
noncomputable def Zab {α:Type}(enc:α→List PV) (g:α→Option (PV×List (List Cell))):List PV→Option (PV×List (List Cell)):=fun ps=>by
 classical
 exact if h:∃ a,enc a=ps then g (Classical.choose h) else none
theorem Zxp {α:Type}{enc:α→List PV}{g:α→Option (PV×List (List Cell))}(hi:∀ a b,enc a=enc b→a=b) (a:α):Zab enc g (enc a)=g a:=by
 unfold Zab;have h:∃ b,enc b=enc a:=⟨a,rfl⟩
 rw[dif_pos h];exact congrArg g (hi _ _ (Classical.choose_spec h))
theorem ZcR {α:Type}{enc:α→List PV}{g:α→Option (PV×List (List Cell))}{ps:List PV}{r:PV×List (List Cell)}(h:Zab enc g ps=some r):∃ a,ps=enc a∧g a=some r:=by
 unfold Zab at h;split at h
 ·rename_i he
  exact⟨_,(Classical.choose_spec he).symm,h⟩
 ·simp at h
def tabF:List (Nat×(List PV→Option (PV×List (List Cell))))→FuncId→Option (List PV→Option (PV×List (List Cell)))
 | [],_=>none
 | (g,F) :: l,f=>if f=g then some F else tabF l f
def tab (l:List (Nat×(List PV→Option (PV×List (List Cell))))) (own:Nat→List (List Nat):=fun _=>[]):Tab:=⟨tabF l,own⟩
def Zpx (P:Program) (G:Glob):List (Nat×(List PV→Option (PV×List (List Cell))))→Prop
 | []=>True
 | (g,F) :: l=>Zd9 P G (g % 1000000) F∧Zpx P G l
theorem Zsx {P:Program}{G:Glob}:∀ {l:List (Nat×(List PV→Option (PV×List (List Cell))))},Zpx P G l→∀ f F,tabF l f=some F→Zd9 P G (f % 1000000) F
 | [],_,f,F,h=>by simp[tabF] at h
 | (g,H) :: l,ha,f,F,h=>by
  simp only[tabF] at h;split at h
  ·rename_i hf
   simp at h
   subst hf h;exact ha.1
  ·exact Zsx ha.2 f F h
theorem tab_ok {P:Program}{G:Glob}{l:List (Nat×(List PV→Option (PV×List (List Cell))))}{own:Nat→List (List Nat)}(h:Zpx P G l):∀ f F,tab l own f=some F→Zd9 P G (f % 1000000) F:=fun f F hf=>Zsx h f F hf
abbrev bP (b:Bool):PV:=.one (.v (.bool b))
def ints (k:IntKind) (l:List Int):List Cell:=l.map fun x=>.v (.int k x)
section
variable {k:IntKind}{l m:List Int}
@[simp] theorem ints_len:(ints k l).length=l.length:=by simp[ints]
@[simp] theorem ints_stab:Y8 (ints k l)=true:=by simp[ints,Y8,Cell.stab]
@[simp] theorem ints_noSl:hasSlL (ints k l)=false:=by simp[ints,hasSlL,Cell.hasSl,Cell.isSl]
@[simp] theorem Zrd (i:Nat):(ints k l)[i]? = (l[i]?).map fun x=>.v (.int k x):=by simp[ints]
theorem ZzU (n:Nat):(ints k l).take n=ints k (l.take n):=by simp[ints,List.map_take]
theorem ZuA (n:Nat):(ints k l).drop n=ints k (l.drop n):=by simp[ints,List.map_drop]
theorem Zv8 (h:ints k l=ints k m):l=m:=by
 unfold ints at h;have hi:Function.Injective (fun x:Int=>Cell.v (.int k x)):=fun a b h=>by injection h with h; injection h
 exact(List.map_inj_right (fun a b h=>hi h)).1 h
theorem Zv9 {i:Nat}(x:Int) (hi:i<l.length):ZE (ints k l) i [.v (.int k x)]=ints k (l.set i x):=by
 apply List.ext_getElem?
 intro j;rw[ZnP (by simp; omega)];simp only[Zrd,List.getElem?_set,List.length_cons,List.length_nil];by_cases hj:i=j
 ·subst hj
  simp[hi]
 ·have:¬ (i≤j∧j<i+1):=by omega
  simp[this,hj]
theorem ints_eq:∀ {a b:List Int},a.length=b.length→cellsEq (ints k a) (ints k b)=some (a == b)
 | [],[],_=>rfl
 | x :: a,y :: b,h=>by
  have ih:=ints_eq (a:=a) (b:=b) (by simpa using h);simp only[ints] at ih;simp[ints,ih,List.cons_beq_cons]
end
structure Arr (n:Nat) where
 l:List Int
 hl:l.length=n
deriving DecidableEq
def arC {n:Nat}(k:IntKind) (a:Arr n):List Cell:=ints k a.l
section
variable {n:Nat}{k:IntKind}
@[simp] theorem Zxq (a:Arr n):(arC k a).length=n:=by simp[arC,a.hl]
@[simp] theorem ZAc (a:Arr n):Y8 (arC k a)=true:=by simp[arC]
@[simp] theorem ZAd (a:Arr n):hasSlL (arC k a)=false:=by simp[arC]
@[simp] theorem ZAe (a:Arr n):(arC k a).take n=arC k a:=List.take_of_length_le (by simp)
@[simp] theorem arC_eq (a b:Arr n):cellsEq (arC k a) (arC k b)=some (decide (a=b)):=by
 unfold arC;rw[ints_eq (by rw[a.hl,b.hl])];cases a; cases b
 simp
 rw[Bool.eq_iff_iff];simp
theorem Zpy {a b:Arr n}(h:arC k a=arC k b):a=b:=by
 have:=Zv8 h;cases a; cases b
 simp_all
end
def Zg (k:IntKind) (l:List Int):List (List Cell):=l.map fun x=>[.v (.int k x)]
abbrev isC (k:IntKind) (l:List Int):Cell:=.slice .no (Zg k l)
section
variable {k:IntKind}{l m:List Int}
@[simp] theorem intsR_len:(Zg k l).length=l.length:=by simp[Zg]
@[simp] theorem intsR_pure:ZH (Zg k l)=true:=Zo1 l (by simp[Cell.stab])
@[simp] theorem ZzV {bx:Boxes}{ns:List Nat}:YV bx ns (Zg k l)=Zg k l:=Zp0 l (by simp[Cell.stab])
@[simp] theorem ZuB (i:Nat):(Zg k l)[i]? = (l[i]?).map fun x=>[.v (.int k x)]:=by simp[Zg]
@[simp] theorem intsR_all:∀ x∈Zg k l,x.length=1:=by simp[Zg]
theorem ZmE (n:Nat):(Zg k l).take n=Zg k (l.take n):=by simp[Zg,List.map_take]
theorem Zo2 (n:Nat):(Zg k l).drop n=Zg k (l.drop n):=by simp[Zg,List.map_drop]
theorem intsR_append:Zg k l++Zg k m=Zg k (l++m):=by simp[Zg]
theorem chunk_ints:∀ {n:Nat}{l:List Int},n≤l.length→Zap 1 n (ints k l)=Zg k (l.take n)
 | 0,l,_=>by simp[Zap,Zg]
 | n+1,[],h=>by simp at h
 | n+1,x :: l,h=>by
  have:=chunk_ints (n:=n) (l:=l) (by simpa using h);simp only[ints,Zg] at this;simp[Zap,ints,Zg,this]
theorem ZuC (h:Zg k l=Zg k m):l=m:=by
 unfold Zg at h;have hi:Function.Injective (fun x:Int=>[Cell.v (.int k x)]):=fun a b h=>by injection h with h; injection h with h; injection h
 exact(List.map_inj_right (fun a b h=>hi h)).1 h
theorem Zp (i:Nat) (x:Int):(Zg k l).set i [.v (.int k x)]=Zg k (l.set i x):=by simp[Zg,List.map_set]
end
@[simp] theorem ZzW {cs ds:List Cell}(h:cs.length≤ds.length):ZE cs 0 ds=ds:=by
 unfold ZE;rw[List.drop_of_length_le (by omega)];simp
@[simp] theorem ZAf (c:Cell) (cs:List Cell) (n:Nat) (ds:List Cell):ZE (c :: cs) (n+1) ds=c :: ZE cs n ds:=by
 unfold ZE;rw[show n+1+ds.length=(n+ds.length)+1 by omega];simp
@[simp] theorem ZAg (c d:Cell) (cs ds:List Cell):ZE (c :: cs) 0 (d :: ds)=d :: ZE cs 0 ds:=by
 unfold ZE;simp
@[simp] theorem ZAK (cs:List Cell):ZE cs 0 []=cs:=by unfold ZE; simp
theorem Zwa {xs cs ds:List Cell}{n:Nat}(h:xs.length≤n):ZE (xs++cs) n ds=xs++ZE cs (n-xs.length) ds:=by
 unfold ZE;rw[List.take_append,List.drop_append,List.take_of_length_le h,List.drop_of_length_le (by omega)];simp
 congr 2
 omega
@[simp] theorem ZAL {n:Nat}{k:IntKind}(cs:List Cell) (a:Arr n):ZE cs 0 (arC k a)=arC k a++cs.drop n:=by unfold ZE; simp
@[simp] theorem Zyr {n m:Nat}{k:IntKind}(a:Arr n) (cs ds:List Cell) (h:n≤m):ZE (arC k a++cs) m ds=arC k a++ZE cs (m-n) ds:=by
 have:=Zwa (xs:=arC k a) (cs:=cs) (ds:=ds) (n:=m) (by simpa using h);simpa using this
attribute [simp] List.take_of_length_le List.drop_of_length_le List.take_append List.drop_append
def Arr.at {n:Nat}(a:Arr n) (i:Nat):Int:=a.l.getD i 0
def Arr.put {n:Nat}(a:Arr n) (i:Nat) (x:Int):Arr n:=⟨a.l.set i x,by simp[a.hl]⟩
theorem YO {n:Nat}{k:IntKind}(a:Arr n){i:Nat}(h:i<n):(arC k a)[i]? = some (.v (.int k (a.at i))):=by
 have hl:i<a.l.length:=by rw[a.hl]; exact h
 unfold arC;rw[Zrd,List.getElem?_eq_getElem hl];simp[Arr.at,hl]
@[simp] theorem ZAh {n:Nat}{k:IntKind}(a:Arr n){i:Nat}(h:i<(arC k a).length):(arC k a)[i] = .v (.int k (a.at i)):=by
 have h1:=YO (k:=k) a (i:=i) (by simpa using h);rw[List.getElem?_eq_getElem h] at h1;injection h1
theorem Y4 {n:Nat}{k:IntKind}(a:Arr n){i:Nat}(h:i<n):((arC k a).drop i).take 1=[.v (.int k (a.at i))]:=by
 have h1:=YO (k:=k) a h;have hl:i<(arC k a).length:=by simpa using h
 rw[List.getElem?_eq_getElem hl] at h1;injection h1 with h1;rw[List.drop_eq_getElem_cons hl,h1];rfl
theorem Zdo {n:Nat}{k:IntKind}(a:Arr n){i:Nat}(h:i<n) (x:Int):ZE (arC k a) i [.v (.int k x)]=arC k (a.put i x):=by
 unfold arC;rw[Zv9 x (by rw[a.hl]; exact h)];rfl
theorem Arr.put_put {n:Nat}(a:Arr n) (i:Nat) (x y:Int):(a.put i x).put i y=a.put i y:=by
 unfold Arr.put
 congr 1
 simp
theorem Arr.at_put {n:Nat}(a:Arr n){i:Nat}(h:i<n) (x:Int):(a.put i x).at i=x:=by
 have:=a.hl;simp[Arr.at,Arr.put,show i<a.l.length by omega]
theorem Arr.at_put_ne {n:Nat}(a:Arr n){i j:Nat}(h:i≠j) (x:Int):(a.put i x).at j=a.at j:=by
 simp[Arr.at,Arr.put,List.getElem?_set_ne h]
theorem Arr.ext {n:Nat}{a b:Arr n}(h:∀ i,i<n→a.at i=b.at i):a=b:=by
 obtain⟨a,ha⟩:=a;obtain⟨b,hb⟩:=b
 congr 1
 apply List.ext_getElem (by omega)
 intro i h1 h2;have:=h i (by omega);simpa[Arr.at,h1,h2] using this
theorem Arr.put_at {n:Nat}(a:Arr n){i:Nat}(h:i<n):a.put i (a.at i)=a:=by
 apply Arr.ext
 intro j hj;by_cases hij:i=j
 ·subst hij; rw[Arr.at_put _ h]
 ·rw[Arr.at_put_ne _ hij]
def zs (n:Nat):List Int:=List.replicate n 0
@[simp] theorem zs_len (n:Nat):(zs n).length=n:=by simp[zs]
theorem zs_get {n i:Nat}(h:i<n):(zs n)[i]? = some 0:=by simp[zs,h]
def zA (n:Nat):Arr n:=⟨zs n,by simp⟩
theorem Zzp {n i:Nat}:(zA n).at i=0:=by
 simp[zA,zs,Arr.at,List.getElem?_replicate]
 split <;> rfl
@[simp] theorem zr_map (n:Nat) (k:IntKind):(zr n (.int k)).map Zc.cell=arC k (zA n):=by simp[zr,arC,ints,zA,zs,Zc.cell]
@[simp] theorem zr_len (n:Nat) (z:Zc):(zr n z).length=n:=by simp[zr]
def und (n:Nat):List PV:=List.replicate n .undef
def ZnU (R:TypeId→List Cell→Prop):List TypeId→List Cell→Prop
 | [],cs=>cs=[]
 | t :: ts,cs=>∃ a b,cs=a++b∧R t a∧ZnU R ts b
def Yo (tt:TT):Nat→TypeId→List Cell→Prop
 | 0,_,_=>False
 | n+1,t,cs=>match tt t with
  | some i=>(match i.kind with
   | .int k=>∃ x,cs=[.v (.int k x)]∧(Lit.int k x).wf=true
   | .bool=>∃ b,cs=[.v (.bool b)]
   | .str=>∃ s:ByteArray,cs=[.v (.string s)]∧s.size≤maxLen
   | .slice e=>∃ els,cs=[.slice .no els]∧els.length≤maxLen∧∀ l∈els,Yo tt n e l
   | .struct fs=>ZnU (Yo tt n) (fs.map (·.2)) cs
   | .array m e=>∃ ps:List (List Cell),cs=ps.flatten∧ps.length=m∧∀ l∈ps,Yo tt n e l
   | .map _ _=>False
   | .other=>False)
  | none=>False
def Zre (tt:TT) (f:TypeId→Bool):List (Nat×TypeId)→Nat→Nat→Bool
 | [],off,n=>off == n
 | (o,t) :: fs,off,n=>o == off && f t && (match ZcQ tt t with | some s=>Zre tt f fs (off+s) n | none=>false)
def ZmF (tt:TT):Nat→TypeId→Bool
 | 0,_=>false
 | n+1,t=>match tt t with
  | some i=>(match i.kind with
   | .int _=>i.size == 1
   | .bool=>i.size == 1
   | .str=>i.size == 1
   | .slice e=>i.size == 1 && ZmF tt n e && (match ZcQ tt e with | some s=>decide (0<s) | none=>false)
   | .struct fs=>Zre tt (ZmF tt n) fs 0 i.size
   | .array m e=>ZmF tt n e && (match ZcQ tt e with | some s=>i.size == m * s | none=>false)
   | .map _ _=>false
   | .other=>false)
  | none=>false
theorem Zrf {α β:Type}{f:α→Option β}:∀ {l:List α}{r:List β},l.mapM f=some r→∀ a∈l,∃ b,f a=some b
 | [],r,_,a,ha=>by simp at ha
 | x :: l,r,h,a,ha=>by
  rw[List.mapM_cons] at h;cases hx:f x with
  | none=>simp[hx] at h
  | some b =>
   cases hl:l.mapM f with
   | none=>simp[hx,hl] at h
   | some r' =>
    rcases List.mem_cons.1 ha with rfl | ha
    ·exact⟨b,hx⟩
    ·exact Zrf hl a ha
theorem Zrg {α β:Type}{f:α→Option β}:∀ {l:List α}{r:List β},l.mapM f=some r→∀ {i:Nat}{a:α},l[i]? = some a→∃ b,r[i]? = some b∧f a=some b
 | [],r,_,i,a,ha=>by simp at ha
 | x :: l,r,h,i,a,ha=>by
  rw[List.mapM_cons] at h;cases hx:f x with
  | none=>simp[hx] at h
  | some b =>
   cases hl:l.mapM f with
   | none=>simp[hx,hl] at h
   | some r' =>
    simp[hx,hl] at h
    subst h;cases i with
    | zero=>simp at ha; subst ha; exact⟨b,by simp,hx⟩
    | succ i=>simpa using Zrg hl (by simpa using ha)
theorem Zrh {α β:Type}{f:α→Option β}:∀ {l:List α}{r:List β},l.mapM f=some r→r.length=l.length
 | [],r,h=>by simp at h; subst h; rfl
 | x :: l,r,h=>by
  rw[List.mapM_cons] at h;cases hx:f x with
  | none=>simp[hx] at h
  | some b =>
   cases hl:l.mapM f with
   | none=>simp[hx,hl] at h
   | some r'=>simp[hx,hl] at h; subst h; simp[Zrh hl]
section
variable {H:Type}{enc:TypeId×Value→H}{P:Program}{tt:TT}{w:World}{base:Nat}{spare:Nat→Bool}{held:Bool}
theorem Zo3 (htt:∀ t i,tt t=some i→Z0 P t=some i){t:TypeId}{i:TI}(h:tt t=some i):P.cellsOf t=i.size:=by
 obtain⟨info,d,z,h1,h2,h3,h4,_⟩:=(Zn (htt _ _ h)).ex;simp[Program.cellsOf,h1,h4]
theorem ZmG (htt:∀ t i,tt t=some i→Z0 P t=some i){t:TypeId}{s:Nat}(h:ZcQ tt t=some s):P.cellsOf t=s:=by
 unfold ZcQ at h;split at h <;> simp at h
 rename_i i hi;rw[Zo3 htt hi,h]
theorem Zwb {t e:TypeId}{n fuel:Nat}{cs:List Value}{x:DataW H×List MemPlace}(ht:P.underlying t=some (.array n e)) (h:DataW.trod enc P w base spare held fuel t cs=some x) :
  ∃ m,fuel=m+1∧cs.length=P.cellsOf t∧∀ i,i<n→∃ y,DataW.trod enc P w base spare held m e ((cs.drop (i * P.cellsOf e)).take (P.cellsOf e))=some y:=by
 cases fuel with
 | zero=>simp[DataW.trod] at h
 | succ m =>
  refine⟨m,rfl,?_⟩;unfold DataW.trod at h;rw[ht] at h;split at h <;> simp_all
  rename_i h2;obtain⟨hl,xs,hxs,_⟩:=h;intro i hi;obtain⟨⟨y1,y2⟩,hy⟩:=Zrf hxs i (by simpa using hi);exact⟨y1,y2,hy⟩
theorem ZuD {a:Addr}{vs:List Value}{n:Nat}(h:(List.range n).mapM (fun i=>w.cell? (a.add i))=some vs):vs.length=n∧∀ j,j<n→∃ v,vs[j]? = some v∧w.cell? (a.add j)=some v:=by
 refine⟨by simpa using Zrh h,fun j hj=>?_⟩;obtain⟨b,h1,h2⟩:=Zrg h (i:=j) (a:=j) (by simp[hj]);exact⟨b,h1,h2⟩
theorem Zp1 {a:Addr}{v:Value}(h:w.cell? a=some v):a.spot=none∧a.block<w.heap.size:=by
 unfold World.cell? at h;split at h
 ·rename_i hb
  split at h
  ·simp at h
  ·rename_i hs
   exact⟨by simpa using hs,Zaa hb⟩
 ·simp at h
theorem Zsy (htt:∀ t i,tt t=some i→Z0 P t=some i){R:TypeId→List Cell→Prop}{S:Nat→Nat→Prop}{cs:List Value}{f:TypeId→Bool}:∀ {fs:List (Nat×TypeId)}{off n:Nat},Zre tt f fs off n=true→cs.length=n→(∀ o t,(o,t)∈fs→f t=true→∃ cells,ZU S w cells ((cs.drop o).take (P.cellsOf t))∧R t cells) →
  ∃ cells,ZU S w cells (cs.drop off)∧ZnU R (fs.map (·.2)) cells
 | [],off,n,ho,hl,h=>by
  simp[Zre] at ho
  exact⟨[],by rw[List.drop_of_length_le (by omega)]; exact .nil,rfl⟩
 | (o,t) :: fs,off,n,ho,hl,h=>by
  simp only[Zre,Bool.and_eq_true,beq_iff_eq] at ho;obtain⟨⟨rfl,hf⟩,ho⟩:=ho;split at ho
  ·rename_i s hs
   obtain⟨c1,r1,t1⟩:=h o t (by simp) hf;obtain⟨c2,r2,t2⟩:=Zsy htt ho hl (fun o' t' hm=>h o' t' (by simp[hm]));rw[ZmG htt hs] at r1;refine⟨c1++c2,?_,c1,c2,rfl,t1,t2⟩;have:=r1.append r2;rw[← List.drop_drop,List.take_append_drop] at this;exact this
  ·simp at ho
theorem ZuE (htt:∀ t i,tt t=some i→Z0 P t=some i):∀ (n:Nat) (t:TypeId) (fuel:Nat) (cs:List Value) (x:DataW H×List MemPlace),ZmF tt n t=true→DataW.trod enc P w base spare held fuel t cs=some x →
  ∃ cells,ZU (fun b _=>b<w.heap.size) w cells cs∧Yo tt n t cells∧cs.length=P.cellsOf t:=by
 intro n;induction n with
 | zero=>intro t fuel cs x ho; simp[ZmF] at ho
 | succ n ih =>
  intro t fuel cs x ho hx;simp only[ZmF] at ho;cases hi:tt t with
  | none=>rw[hi] at ho; simp at ho
  | some i =>
   rw[hi] at ho;simp only at ho;have hts:=Zn (htt _ _ hi);have hco:=Zo3 htt hi;cases hk:i.kind with
   | other=>rw[hk] at ho; simp at ho
   | map=>rw[hk] at ho; simp at ho
   | int k =>
    rw[hk] at ho;simp at ho
    obtain⟨m,rfl,_,hwf⟩:=DataW.trod_int (hts.int hk) hx;refine⟨[.v (.int k m)],.cons (.v _ rfl (by simp)) .nil,?_,by rw[hco,ho]; rfl⟩;simp only[Yo,hi,hk];exact⟨m,rfl,hwf⟩
   | bool =>
    rw[hk] at ho;simp at ho
    have hu:P.underlying t=some .bool:=by
     obtain⟨info,d,z,h1,h2,h3,h4,h5,_⟩:=hts.ex;rw[hk] at h5;cases d <;> simp[tkind] at h5
     exact h2
    obtain⟨m,rfl,_⟩:=DataW.trod_bool hu hx;refine⟨[.v (.bool m)],.cons (.v _ rfl (by simp)) .nil,?_,by rw[hco,ho]; rfl⟩;simp only[Yo,hi,hk];exact⟨m,rfl⟩
   | str =>
    rw[hk] at ho;simp at ho
    obtain⟨m,rfl,_,hwf⟩:=DataW.trod_string (hts.str hk) hx;refine⟨[.v (.string m)],.cons (.v _ rfl (by simp)) .nil,?_,by rw[hco,ho]; rfl⟩;simp only[Yo,hi,hk];exact⟨m,rfl,hwf⟩
   | slice e =>
    rw[hk] at ho;simp only[Bool.and_eq_true,beq_iff_eq] at ho;obtain⟨⟨ho1,ho2⟩,ho3⟩:=ho;split at ho3
    ·rename_i s hs
     have hs0:0<s:=by simpa using ho3
     have hcs:=ZmG htt hs;rcases DataW.trod_slice (hts.slice hk) hx with ⟨rfl,_⟩ | ⟨a,len,cap,elems,rest,m,_,rfl,_,hb,hlc,hcm,hel,helem,_,_⟩
     ·refine⟨[.slice .no []],.cons (Yn.no_empty none (e:=1) (by omega)) .nil,?_,by rw[hco,ho1]; rfl⟩
      simp only[Yo,hi,hk];exact⟨[],rfl,by simp,by simp⟩
     ·have hat:∀ j,j<len→∃ cells vs,ZU (fun b _=>b<w.heap.size) w cells vs∧Yo tt n e cells∧vs.length=s∧∀ q,q<s→∃ v,vs[q]? = some v∧w.cell? ((a.add (j * s)).add q)=some v:=by
       intro j hj;have h1:=helem j hj;rw[hcs] at h1;have hjl:j<elems.length:=by omega
       rw[List.getElem?_eq_getElem hjl] at h1;cases hc:w.cells? base (a.add (j * s)) s with
       | none=>rw[hc] at h1; simp at h1
       | some vs =>
        rw[hc] at h1;simp only[Option.bind_some] at h1;obtain⟨cells,r1,r2,r3⟩:=ih e m vs _ ho2 h1;unfold World.cells? at hc;split at hc
        ·obtain⟨l1,l2⟩:=ZuD hc
         exact⟨cells,vs,r1,r2,l1,l2⟩
        ·simp at hc
      have hall:∃ els:List (List Cell),els.length=len∧∀ (j:Nat) l,els[j]? = some l→∃ vs,ZU (fun b _=>b<w.heap.size) w l vs∧Yo tt n e l∧vs.length=s∧∀ q,q<s→∃ v,vs[q]? = some v∧w.cell? ((a.add (j * s)).add q)=some v:=by
       revert hat
       generalize len=L;intro hat;induction L with
       | zero=>exact⟨[],rfl,by simp⟩
       | succ len ihl =>
        obtain⟨els,g1,g2⟩:=ihl (fun j hj=>hat j (by omega));obtain⟨cells,vs,r1,r2,r3,r4⟩:=hat len (by omega);refine⟨els++[cells],by simp[g1],fun j l hl=>?_⟩;rw[List.getElem?_append] at hl;split at hl
        ·exact g2 j l hl
        ·have hj:j=len:=by
          have:=Zm hl;simp at this
          omega
         subst hj;simp[g1] at hl
         subst hl;exact⟨vs,r1,r2,r3,r4⟩
      obtain⟨els,g1,g2⟩:=hall;refine⟨[.slice .no els],.cons ?_ .nil,?_,by rw[hco,ho1]; rfl⟩
      ·have hsp:els≠[]→a.spot=none∧a.block<w.heap.size:=by
        intro hne;have h0:0<els.length:=List.length_pos_iff.2 hne;obtain⟨vs,_,_,_,h4⟩:=g2 0 els[0] (by simp[h0]);obtain⟨v,_,h5⟩:=h4 0 hs0;have:=Zp1 h5;simpa[Addr.add] using this
       have hrep:=Yn.slice (S:=fun b _=>b<w.heap.size) (w:=w) els (some a) cap s a.block a.off (fun i j=>(w.cell? ⟨a.block,a.off+i * s+j,none⟩).getD undef) (by omega) hcm (fun l hl=>by
        obtain⟨j,hj⟩:=List.getElem?_of_mem hl;obtain⟨vs,r1,_,r3,_⟩:=g2 j l hj;rw[r1.length,r3]) hs0 (fun hne=>by
        obtain⟨h1,_⟩:=hsp hne;cases a
        simp at h1
        subst h1;rfl) (fun j l hl q hq=>by
        have hne:els≠[]:=by rintro rfl; simp at hl
        obtain⟨h1,h2⟩:=hsp hne;obtain⟨vs,_,_,_,h4⟩:=g2 j l hl;obtain⟨v,_,h5⟩:=h4 q hq
        have h6:(a.add (j * s)).add q=⟨a.block,a.off+j * s+q,none⟩:=by
         obtain⟨ab,ao,asp⟩:=a;simp only at h1;subst h1;rw[Addr.add_lit,Addr.add_lit]
        rw[h6] at h5;exact⟨h2,by rw[h5]; rfl⟩) (fun j l hl q x hx'=>by
        have hne:els≠[]:=by rintro rfl; simp at hl
        obtain⟨h1,h2⟩:=hsp hne;obtain⟨vs,r1,_,r3,h4⟩:=g2 j l hl;have hq:q<s:=by rw[← r3,← r1.length]; exact Zm hx'
        obtain⟨v,h7,h5⟩:=h4 q hq
        have h6:(a.add (j * s)).add q=⟨a.block,a.off+j * s+q,none⟩:=by
         obtain⟨ab,ao,asp⟩:=a;simp only at h1;subst h1;rw[Addr.add_lit,Addr.add_lit]
        rw[h6] at h5;obtain⟨v',h8,h9⟩:=r1.get hx';rw[h7] at h8;injection h8 with h8;subst h8;rw[h5]
        exact h9)
       rw[g1] at hrep;exact hrep
      ·simp only[Yo,hi,hk]
       refine⟨els,rfl,by omega,fun l hl=>?_⟩;obtain⟨j,hj⟩:=List.getElem?_of_mem hl;obtain⟨_,_,r2,_⟩:=g2 j l hj;exact r2
    ·simp at ho3
   | struct fs =>
    rw[hk] at ho;simp only at ho;obtain⟨fields,hu,rfl⟩:=hts.struct hk;obtain⟨xs,m,_,_,hl,hxl,hf⟩:=DataW.trod_struct hu hx
    obtain⟨cells,r1,r2⟩:=Zsy (P:=P) htt (cs:=cs) (R:=Yo tt n) (S:=fun b _=>b<w.heap.size) (w:=w) ho (by rw[hl,hco]) (fun o t' hm hok=>by
     simp only[List.mem_map] at hm;obtain⟨fd,hfd,he⟩:=hm;injection he with e1 e2;subst e1 e2;obtain⟨j,hj⟩:=List.getElem?_of_mem hfd;have hj':fields[j]? = some fd:=by simpa using hj
     have h1:=hf j fd hj';have hjl:j<xs.length:=by have:=Zm hj; simp at this; omega
     rw[List.getElem?_eq_getElem hjl] at h1;obtain⟨cells,r1,r2,_⟩:=ih fd.type m _ _ hok h1
     exact⟨cells,r1,r2⟩)
    refine⟨cells,by simpa using r1,?_,hl⟩;simp only[Yo,hi,hk];exact r2
   | array m e =>
    rw[hk] at ho;simp only[Bool.and_eq_true] at ho;obtain⟨ho1,ho2⟩:=ho;split at ho2
    ·rename_i s hs
     simp at ho2
     have hcs:=ZmG htt hs;obtain⟨fu,_,hl,hall⟩:=Zwb (hts.array hk) hx;rw[hcs] at hall
     have key:∀ q,q≤m→∃ ps:List (List Cell),ps.length=q∧ZU (fun b _=>b<w.heap.size) w ps.flatten (cs.take (q * s))∧∀ l∈ps,Yo tt n e l:=by
      intro q;induction q with
      | zero=>intro _; exact⟨[],rfl,by simpa using Zk.nil,by simp⟩
      | succ q ihq =>
       intro hq;obtain⟨ps,g1,g2,g3⟩:=ihq (by omega);obtain⟨y,hy⟩:=hall q (by omega);obtain⟨cells,r1,r2,_⟩:=ih e fu _ _ ho1 hy;refine⟨ps++[cells],by simp[g1],?_,fun l hl=>?_⟩
       ·have:=g2.append r1
        rw[Nat.add_mul,Nat.one_mul,List.take_add];simpa using this
       ·simp at hl
        rcases hl with hl | rfl
        ·exact g3 l hl
        ·exact r2
     obtain⟨ps,g1,g2,g3⟩:=key m (Nat.le_refl _);refine⟨ps.flatten,?_,?_,hl⟩
     ·rw[List.take_of_length_le (by rw[hl,hco,ho2]; exact Nat.le_refl _)] at g2
      exact g2
     ·simp only[Yo,hi,hk]
      exact⟨ps,rfl,g1,g3⟩
    ·simp at ho2
end
section
variable {tt:TT}{n:Nat}{t e:TypeId}{i:TI}{cs:List Cell}
theorem Yo.int {k:IntKind}(h:Yo tt (n+1) t cs) (hi:tt t=some i) (hk:i.kind = .int k):∃ x,cs=[.v (.int k x)]∧(Lit.int k x).wf=true:=by
 simp only[Yo,hi,hk] at h; exact h
theorem Yo.arr {m:Nat}{k:IntKind}{j:TI}(h:Yo tt (n+2) t cs) (hi:tt t=some i) (hk:i.kind = .array m e) (hj:tt e=some j) (hje:j.kind = .int k):∃ a:Arr m,cs=arC k a∧∀ x∈a.l,(Lit.int k x).wf=true:=by
 simp only[Yo,hi,hk] at h;obtain⟨ps,rfl,hl,hp⟩:=h
 have key:∀ ps:List (List Cell),(∀ l∈ps,Yo tt (n+1) e l)→∃ l:List Int,l.length=ps.length∧ps.flatten=ints k l∧∀ x∈l,(Lit.int k x).wf=true:=by
  intro ps;induction ps with
  | nil=>intro _; exact⟨[],rfl,rfl,by simp⟩
  | cons p ps ih =>
   intro hp;obtain⟨l,h1,h2,h3⟩:=ih fun l hl=>hp l (by simp[hl])
   obtain⟨x,rfl,hx⟩:=Yo.int (hp p (by simp)) hj hje;refine⟨x :: l,by simp[h1],by simp[ints,h2],fun y hy=>?_⟩;rcases List.mem_cons.1 hy with rfl | hy
   ·exact hx
   ·exact h3 y hy
 obtain⟨l,h1,h2,h3⟩:=key ps hp;exact⟨⟨l,by rw[h1,hl]⟩,h2,h3⟩
theorem Yo.row {α:Type}{f:α→List Cell}{R:α→Prop}(h:Yo tt (n+1) t cs) (hi:tt t=some i) (hk:i.kind = .slice e) (hf:∀ l,Yo tt n e l→∃ a,l=f a∧R a):∃ L:List α,cs=[.slice .no (L.map f)]∧L.length≤maxLen∧∀ a∈L,R a:=by
 simp only[Yo,hi,hk] at h;obtain⟨els,rfl,hl,hp⟩:=h
 have key:∀ els:List (List Cell),(∀ l∈els,Yo tt n e l)→∃ L:List α,els=L.map f∧∀ a∈L,R a:=by
  intro els;induction els with
  | nil=>intro _; exact⟨[],rfl,by simp⟩
  | cons l els ih =>
   intro hp;obtain⟨L,h1,h2⟩:=ih fun l hl=>hp l (by simp[hl])
   obtain⟨a,rfl,ha⟩:=hf l (hp l (by simp));refine⟨a :: L,by simp[h1],fun b hb=>?_⟩;rcases List.mem_cons.1 hb with rfl | hb
   ·exact ha
   ·exact h2 b hb
 obtain⟨L,rfl,h2⟩:=key els hp;exact⟨L,rfl,by simpa using hl,h2⟩
theorem Yo.ints {k:IntKind}{j:TI}(h:Yo tt (n+2) t cs) (hi:tt t=some i) (hk:i.kind = .slice e) (hj:tt e=some j) (hje:j.kind = .int k):∃ l:List Int,cs=[isC k l]∧l.length≤maxLen∧∀ x∈l,(Lit.int k x).wf=true :=
 Yo.row h hi hk fun l hl=>Yo.int hl hj hje
theorem Yo.fs {fs:List (Nat×TypeId)}(h:Yo tt (n+1) t cs) (hi:tt t=some i) (hk:i.kind = .struct fs):ZnU (Yo tt n) (fs.map (·.2)) cs:=by
 simp only[Yo,hi,hk] at h; exact h
end
theorem Zys {P:Program}{G:Glob}{f:FuncId}{F:List PV→Option (PV×List (List Cell))}(h:ZR P G f F){S:Nat→Nat→Prop}{w:World}{ps:List PV}{vs:List Value}(hg:Zj3 G S w) (hs:∀ b o,S b o→b<w.heap.size) (ha:Yf S w [] [] ps vs) (hF:F ps=some (bP true,[])) :
  Calls P f vs.toArray w fun e w'=>e = .returned (.bool true)∧Below w.heap.size w w' := by
 refine(h.2 S w [] [] ps vs _ [] hg hs ha List.nodup_nil hF).mono ?_;rintro e w' ⟨v,S',its,jts,rfl,hr,_,_,hgr⟩
 have hv:v = .bool true:=by
  cases hr with
  | base hr=>cases hr with
   | one hr=>cases hr with
    | pure hr=>cases hr; rfl
 subst hv;exact⟨rfl,hgr.keep.os,hgr.keep.tape,hgr.keep.output,hgr.keep.size,fun b hb=>hgr.keep.block b hb (by simp)⟩
theorem Zlb {S:Nat→Nat→Prop}{w:World}{ks hs:List Nat}{c:Cell}{v:Value}{ps:List PV}{vs:List Value}(h:ZU S w [c] [v]) (h2:Yf S w ks hs ps vs):Yf S w ks hs (.one c :: ps) (v :: vs):=by
 cases h with
 | cons h _ =>
  have:=Yf.one (.pure h) h2;simpa[Zq] using this
section
variable {H:Type}{enc:TypeId×Value→H}{P:Program}{tt:TT}{w w0:World}{base b0:Nat}{spare:Nat→Bool}{held:Bool}{r:Reach}
theorem Zri (htt:∀ t i,tt t=some i→Z0 P t=some i) (n:Nat){t:TypeId}{v:Value}{d:DataW H}{ps:List MemPlace}(ho:ZmF tt n t=true) (hc:v.cells.toList=[v]) (h:DataW.Trod enc P w base spare held t v d ps) :
  ∃ cells,ZU (fun b _=>b<w.heap.size) w cells [v]∧Yo tt n t cells:=by
 obtain⟨fuel,hf⟩:=h;obtain⟨cells,h1,h2,_⟩:=ZuE htt n t fuel _ _ ho hf;rw[hc] at h1;exact⟨cells,h1,h2⟩
theorem ZtA (htt:∀ t i,tt t=some i→Z0 P t=some i) (n:Nat){t e:TypeId}{v:Value}{d:DataW H}{ps:List MemPlace}(ho:ZmF tt n t=true) (ht:P.underlying t=some (.slice e)) (hv:Value.okWide P w0 r b0 t v) (h:DataW.Trod enc P w base spare held t v d ps) :
  ∃ cells,ZU (fun b _=>b<w.heap.size) w cells [v]∧Yo tt n t cells:=by
 obtain⟨a,l,c,rfl⟩:=WideShapes.okWide_slice ht hv;exact Zri htt n ho rfl h
theorem Zwc (htt:∀ t i,tt t=some i→Z0 P t=some i) (n:Nat){t:TypeId}{k:IntKind}{v:Value}{d:DataW H}{ps:List MemPlace}(ho:ZmF tt n t=true) (ht:P.underlying t=some (.int k)) (hv:Value.okWide P w0 r b0 t v) (h:DataW.Trod enc P w base spare held t v d ps) :
  ∃ cells,ZU (fun b _=>b<w.heap.size) w cells [v]∧Yo tt n t cells:=by
 obtain⟨a,rfl⟩:=WideShapes.okWide_int ht hv;exact Zri htt n ho rfl h
end
end Go.Av
