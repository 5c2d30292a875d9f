import Derived.Test.YtcfpmbefhfbdjaaGreatDoorLcG3
import Derived.Test.YtcfpmbefhfbdjaaGreatDoorLcG1
import Derived.KernelRfl
import Derived.Test.YtcfpmbefhfbdjaaGreatDoorLcG2
import Derived.Sort.AssemblyPlain
namespace Go.Lc
open Go.RowKit
open Go.Av
set_option linter.unusedVariables false
set_option linter.unusedSimpArgs false
theorem Zot (bad:Nat→Prop):∀ n,(∃ i,i<n∧bad i)→∃ m,m<n∧bad m∧∀ j,j<m→¬ bad j:=by
 classical
 intro n;induction n with
 | zero=>rintro⟨i,h,_⟩; omega
 | succ n ih =>
  intro h;by_cases hx:∃ i,i<n∧bad i
  ·obtain⟨m,h1,h2,h3⟩:=ih hx
   exact⟨m,by omega,h2,h3⟩
  ·obtain⟨i,hi,hb⟩:=h
   have:i=n:=by
    rcases Nat.lt_or_ge i n with h' | h'
    ·exact absurd ⟨i,h',hb⟩ hx
    ·omega
   subst this;exact⟨i,by omega,hb,fun j hj hb=>hx ⟨j,hj,hb⟩⟩
theorem ZpK {σ ρ:Type}{step:σ→Option (σ ⊕ ρ)}(enc:Nat→σ) (n:Nat) (bad:Nat→Prop) (rb x:Option ρ) (h:∀ i,i<n→¬ bad i→step (enc i)=some (.inl (enc (i+1)))) (hb:∀ i,i<n→bad i→step (enc i)=rb.map .inr) (he:step (enc n)=x.map .inr):Ze step (enc 0)=(by classical exact if ∃ i,i<n∧bad i then rb else x):=by
 classical
 by_cases hx:∃ i,i<n∧bad i
 ·rw[if_pos hx]
  obtain⟨m,hm,hbm,hmin⟩:=Zot bad n hx;exact ZG enc m (fun i hi=>h i (by omega) (hmin i hi)) (hb m hm hbm)
 ·rw[if_neg hx]
  exact ZG enc n (fun i hi=>h i hi fun hbi=>hx ⟨i,hi,hbi⟩) he
theorem ZsW {σ ρ α:Type}{step:σ→Option (σ ⊕ ρ)}(enc:Nat→σ) (l:List α) (bad:α→Prop) (rb x:Option ρ) (h:∀ i (hi:i<l.length),¬ bad l[i]→step (enc i)=some (.inl (enc (i+1)))) (hb:∀ i (hi:i<l.length),bad l[i]→step (enc i)=rb.map .inr) (he:step (enc l.length)=x.map .inr):Ze step (enc 0)=(by classical exact if ∃ a∈l,bad a then rb else x):=by
 classical
 rw[ZpK enc l.length (fun i=>∃ hi:i<l.length,bad l[i]) rb x (fun i hi hn=>h i hi fun hb=>hn ⟨hi,hb⟩) (fun i hi ⟨_,hbi⟩=>hb i hi hbi) he]
 have:(∃ i,i<l.length∧∃ hi:i<l.length,bad l[i])↔∃ a∈l,bad a:=by
  constructor
  ·rintro⟨i,_,hi,hb⟩
   exact⟨_,List.getElem_mem hi,hb⟩
  ·rintro⟨a,ha,hb⟩
   obtain⟨i,hi,rfl⟩:=List.getElem_of_mem ha;exact⟨i,hi,hi,hb⟩
 simp only[this]
theorem Zd0 {σ ρ α:Type}{step:σ→Option (σ ⊕ ρ)}(enc:Nat→σ) (l:List α) (bad:α→Prop) (rb x:Option ρ) [inst:Decidable (∃ a∈l,bad a)] (h:∀ i (hi:i<l.length),¬ bad l[i]→step (enc i)=some (.inl (enc (i+1)))) (hb:∀ i (hi:i<l.length),bad l[i]→step (enc i)=rb.map .inr) (he:step (enc l.length)=x.map .inr){s:σ}(hs:s=enc 0):Ze step s=if ∃ a∈l,bad a then rb else x:=by
 subst hs;rw[ZsW enc l bad rb x h hb he];split
 ·rfl
 ·rfl
theorem ZaZ {α β:Type}{l:List α}(f:α→List β){i:Nat}(h:i<l.length):(l.take (i+1)).flatMap f=(l.take i).flatMap f++f l[i]:=by
 rw[List.take_succ_eq_append_getElem h,List.flatMap_append];simp
theorem ZdM {α β:Type}(l:List α) (f:α→List β) (i:Nat):((l.take i).flatMap f).length≤(l.flatMap f).length:=by
 conv=>rhs; rw[← List.take_append_drop i l]
 rw[List.flatMap_append,List.length_append];omega
def Yh (n:Int) (k:Nat):List Int:=(List.range k).map fun i=>IntKind.u8.wrap (n.fdiv (2 ^ (8 * i)))
@[simp] theorem Zd1 (n:Int) (k:Nat):(Yh n k).length=k:=by simp[Yh]
theorem ZqP {i:Nat}(h:i<8):min (IntKind.i64.wrap (8 * (i:Int))).toNat 64=8 * i:=by
 rw[wi _ (by omega)];omega
theorem ZlX (n:Int) (k:Nat) (hk:k≤8):Xp n k=some (Yh n k):=by
 unfold Xp;rw[Zj (by omega)]
 have:=ZG (step:=ZcU k n) (fun i=>((i:Int),((List.range i).map fun i=>IntKind.u8.wrap (n.fdiv (2 ^ (8 * i))))++List.replicate (k-i) 0)) k (x:=some (Yh n k)) (fun i hi=>by
  simp only[ZcU];rw[if_pos (by omega),Zj (by rw[wi _ (by omega)]; omega),ZpG _ _ (by omega),YS hi,ZqP (by omega),Zor (fun i=>IntKind.u8.wrap (n.fdiv (2 ^ (8 * i)))) 0 hi,Zu hi (by omega)]) (by
  simp only[ZcU];rw[if_neg (by omega)]
  simp[ZeH,Yh])
 simpa using this
theorem Zht (n:Int) (k:Nat) (hk:k≤8):Yf n k=some (Yh n k):=by
 unfold Yf;rw[Zj (by omega)]
 have:=ZG (step:=ZcV k n) (fun i=>((i:Int),((List.range i).map fun i=>IntKind.u8.wrap (n.fdiv (2 ^ (8 * i))))++List.replicate (k-i) 0)) k (x:=some (Yh n k)) (fun i hi=>by
  simp only[ZcV];rw[if_pos (by simp; omega),Zj (by rw[wi _ (by omega)]; omega),ZpG _ _ (by omega),YS hi,ZqP (by omega),Zor (fun i=>IntKind.u8.wrap (n.fdiv (2 ^ (8 * i)))) 0 hi,Zu hi (by omega)]) (by
  simp only[ZcV];rw[if_neg (by simp)]
  simp[ZeJ,Yh])
 simpa using this
theorem ZdN {a b:List Int}(h:a.length+b.length≤140737488355328):YD a b=some (a++b):=by
 unfold YD;rw[wi _ (by omega),Zj (by omega),Zj (by omega),Zj (by omega)]
theorem ZaE {a b:List Int}(h:a.length+b.length≤140737488355328):Ye a b=some (a++b):=by
 unfold Ye;rw[wi _ (by omega),Zj (by omega),Zj (by omega),Zj (by omega)]
section
variable {b:List Int}{n:Int}
theorem Zh0 (h:b.length≤140737488355000):Z6 b n=some (b++Yh (IntKind.u64.wrap n) 4):=by
 unfold Z6;have this:Xp (IntKind.u64.wrap n) 4=some (Yh (IntKind.u64.wrap n) 4):=ZlX _ 4 (by omega);rw[this,Za,ZdN (by simp; omega)];rfl
theorem ZsX (h:b.length≤140737488355000):Zap b n=some (b++Yh n 8):=by
 unfold Zap;have this:Xp n 8=some (Yh n 8):=ZlX _ 8 (by omega);rw[this,Za,ZdN (by simp; omega)];rfl
theorem Zwi (h:b.length≤140737488355000):Zbh b n=some (b++Yh (IntKind.u64.wrap n) 2):=by
 unfold Zbh;have this:Xp (IntKind.u64.wrap n) 2=some (Yh (IntKind.u64.wrap n) 2):=ZlX _ 2 (by omega);rw[this,Za,ZdN (by simp; omega)];rfl
theorem ZdB (h:b.length≤140737488355000):ZY b n=some (b++Yh (IntKind.u64.wrap n) 4):=by
 unfold ZY;have this:Yf (IntKind.u64.wrap n) 4=some (Yh (IntKind.u64.wrap n) 4):=Zht _ 4 (by omega);rw[this,Za,ZaE (by simp; omega)];rfl
theorem Zvl (h:b.length≤140737488355000):Zbi b n=some (b++Yh n 8):=by
 unfold Zbi;have this:Yf n 8=some (Yh n 8):=Zht _ 8 (by omega);rw[this,Za,ZaE (by simp; omega)];rfl
def ZaH (n:Int):List Int:=if n<253 then Yh n 1 else if n<65536 then 253 :: Yh n 2 else if n<4294967296 then 254 :: Yh n 4 else 255 :: Yh n 8
theorem ZaF (n:Int):(ZaH n).length≤9:=by
 unfold ZaH;split
 ·simp
 ·split
  ·simp
  ·split <;> simp
theorem ZjH (h0:0≤n∧n≤18446744073709551615) (h:b.length≤140737488354900):Yv b n=some (b++ZaH n):=by
 unfold Yv ZaH;split
 ·rw[ZdN (by simp; omega)]
  simp[Yh]
 ·split
  ·rw[ZdN (by simp; omega),Za,Zwi (by simp; omega),IntWalk.u16_in _ (by omega),wu _ (by omega)]
   simp
  ·split
   ·rw[ZdN (by simp; omega),Za,Zh0 (by simp; omega),IntWalk.u32_in _ (by omega),wu _ (by omega)]
    simp
   ·rw[ZdN (by simp; omega),Za,ZsX (by simp; omega)]
    simp
theorem Zj7 (h0:0≤n∧n≤18446744073709551615) (h:b.length≤140737488354900):YN b n=some (b++ZaH n):=by
 have l1:Yf n 1=some (Yh n 1):=Zht n 1 (by omega);have l2:Yf n 2=some (Yh n 2):=Zht n 2 (by omega);have l4:Yf n 4=some (Yh n 4):=Zht n 4 (by omega);have l8:Yf n 8=some (Yh n 8):=Zht n 8 (by omega);unfold YN ZaH;split
 ·rw[l1,Za,ZaE (by simp; omega)]
  rfl
 ·split
  ·rw[l2,Za,ZaE (by simp),Za,ZaE (by simp; omega)]
   rfl
  ·split
   ·rw[l4,Za,ZaE (by simp),Za,ZaE (by simp; omega)]
    rfl
   ·rw[l8,Za,ZaE (by simp),Za,ZaE (by simp; omega)]
    rfl
end
def bytesB (s:List Int):List Int:=ZaH s.length++s
theorem Zjx (s:List Int):(bytesB s).length≤9+s.length:=by
 have:=ZaF s.length;simp[bytesB]
 omega
theorem Zfz {n:Nat}(h:n≤140737488355328):IntKind.u64.wrap (n:Int)=n:=wu _ (by omega)
theorem ZlY {b s:List Int}(h:b.length+s.length≤140737488354900):Xj b s=some (b++bytesB s):=by
 unfold Xj;have:=ZaF s.length;rw[Zfz (by omega),ZjH (by omega) (by omega),Za,ZdN (by simp; omega)];simp[bytesB]
theorem Zou {b s:List Int}(h:b.length+s.length≤140737488354900):XK b s=some (b++bytesB s):=by
 unfold XK;have:=ZaF s.length;rw[Zfz (by omega),Zj7 (by omega) (by omega),Za,ZaE (by simp; omega)];simp[bytesB]
theorem ZnV {b:List Int}{a:Arr 32}(h:b.length≤140737488355000):Xt b a=some (b++a.l):=by
 unfold Xt;rw[ZdN (by rw[a.hl]; omega)];rfl
theorem Zit {b:List Int}{a:Arr 32}(h:b.length≤140737488355000):Yw b a=some (b++a.l):=by
 unfold Yw;rw[ZaE (by rw[a.hl]; omega)];rfl
def ZiV (o:Tapi_OutPoint):List Int:=o.1.l++Yh (IntKind.u64.wrap o.2) 4
@[simp] theorem Zli (o:Tapi_OutPoint):(ZiV o).length=36:=by simp[ZiV,o.1.hl]
theorem ZpL (o:Tapi_OutPoint):Zew o=some (ZiV o):=by
 unfold Zew;rw[ZnV (by simp),Za,Zh0 (by simp[o.1.hl])];rfl
theorem Zov (o:Tapi_OutPoint):ZcW o=some (ZiV o):=by
 unfold ZcW;rw[Zit (by simp),Za,ZdB (by simp[o.1.hl])];rfl
def inB (x:Tapi_Input):List Int:=ZiV x.1++Yh (IntKind.u64.wrap x.2.1) 4
@[simp] theorem Zvm (x:Tapi_Input):(inB x).length=40:=by simp[inB]
def Zf0 (o:Tapi_Output):List Int:=Yh (IntKind.u64.wrap o.1) 8++bytesB o.2
def ZlZ (x:Tapi_Input):List Int:=ZaH x.2.2.length++x.2.2.flatMap bytesB
def Zkl (t:Tapi_Tx):List Int:=Yh (IntKind.u64.wrap t.1) 4++ZaH t.2.1.length
def Xi (t:Tapi_Tx) (w:Bool):List Int:=Zkl t++t.2.1.flatMap inB++ZaH t.2.2.1.length++t.2.2.1.flatMap Zf0++Yh (IntKind.u64.wrap t.2.2.2) 4++(if w then t.2.1.flatMap ZlZ else[])
def Zaz (t:Tapi_Tx):Nat:=100+(t.2.1.map fun x=>60+(x.2.2.map fun s=>20+s.length).sum).sum+(t.2.2.1.map fun o=>60+o.2.length).sum
theorem ZkO {α β:Type}(f:α→List β) (g:α→Nat) (h:∀ a,(f a).length≤g a) (l:List α):(l.flatMap f).length≤(l.map g).sum:=by
 induction l with
 | nil=>simp
 | cons a l ih =>
  simp only[List.flatMap_cons,List.length_append,List.map_cons,List.sum_cons];have:=h a;omega
theorem Zlj {α:Type}(g:α→Nat){l:List α}{a:α}(h:a∈l):g a≤(l.map g).sum:=by
 induction l with
 | nil=>simp at h
 | cons b l ih =>
  simp only[List.map_cons,List.sum_cons];rcases List.mem_cons.1 h with rfl | h
  ·omega
  ·have:=ih h
   omega
theorem Zj8 {α:Type}(g:α→Nat) (c:Nat) (h:∀ a,c≤g a) (l:List α):c * l.length≤(l.map g).sum:=by
 induction l with
 | nil=>simp
 | cons a l ih =>
  have:=h a;simp only[List.map_cons,List.sum_cons,List.length_cons,Nat.mul_add];omega
theorem Zvn (x:Tapi_Input):(ZlZ x).length≤9+(x.2.2.map fun s=>20+s.length).sum:=by
 have h1:=ZaF x.2.2.length;have h2:=ZkO bytesB (fun s=>20+s.length) (fun s=>by have:=Zjx s; omega) x.2.2;simp only[ZlZ,List.length_append];omega
theorem Zvo (o:Tapi_Output):(Zf0 o).length≤20+o.2.length:=by
 have:=Zjx o.2;simp only[Zf0,List.length_append,Zd1];omega
section
variable {t:Tapi_Tx}{w:Bool}
def Zf1 (t:Tapi_Tx) (i:Nat):List Int:=Zkl t++(t.2.1.take i).flatMap inB
def Zf2 (t:Tapi_Tx) (i:Nat):List Int:=Zkl t++t.2.1.flatMap inB++ZaH t.2.2.1.length++(t.2.2.1.take i).flatMap Zf0
def ZeT (t:Tapi_Tx) (i:Nat):List Int:=Zkl t++t.2.1.flatMap inB++ZaH t.2.2.1.length++t.2.2.1.flatMap Zf0++Yh (IntKind.u64.wrap t.2.2.2) 4++(t.2.1.take i).flatMap ZlZ
theorem ZnW (t:Tapi_Tx):(t.2.1.flatMap inB).length+(t.2.1.flatMap ZlZ).length≤(t.2.1.map fun x=>60+(x.2.2.map fun s=>20+s.length).sum).sum:=by
 induction t.2.1 with
 | nil=>simp
 | cons x l ih =>
  have:=Zvn x;simp only[List.flatMap_cons,List.length_append,List.map_cons,List.sum_cons,Zvm];omega
theorem ZpM (t:Tapi_Tx):(t.2.2.1.flatMap Zf0).length≤(t.2.2.1.map fun o=>60+o.2.length).sum:=ZkO Zf0 _ (fun o=>by have:=Zvo o; omega) _
theorem Zl0 (t:Tapi_Tx):(Zkl t).length≤13:=by
 have:=ZaF t.2.1.length;simp only[Zkl,List.length_append,Zd1];omega
theorem ZnX (i:Nat):(Zf1 t i).length+50≤Zaz t:=by
 have h1:=Zl0 t;have h2:=ZdM t.2.1 inB i;have h3:=ZnW t;simp only[Zf1,Zaz,List.length_append];omega
theorem ZkP (i:Nat):(Zf2 t i).length+50≤Zaz t:=by
 have h1:=Zl0 t;have h2:=ZdM t.2.2.1 Zf0 i;have h3:=ZnW t;have h4:=ZpM t;have h5:=ZaF t.2.2.1.length;simp only[Zf2,Zaz,List.length_append];omega
theorem ZnY (i:Nat):(ZeT t i).length+50≤Zaz t:=by
 have h1:=Zl0 t;have h2:=ZdM t.2.1 ZlZ i;have h3:=ZnW t;have h4:=ZpM t;have h5:=ZaF t.2.2.1.length;simp only[ZeT,Zaz,List.length_append,Zd1];omega
theorem Ziu (t:Tapi_Tx):t.2.1.length≤Zaz t:=by
 have:=Zj8 (fun x:Tapi_Input=>60+(x.2.2.map fun s=>20+s.length).sum) 60 (fun x=>by omega) t.2.1;unfold Zaz;omega
theorem Zow (t:Tapi_Tx):t.2.2.1.length≤Zaz t:=by
 have:=Zj8 (fun o:Tapi_Output=>60+o.2.length) 60 (fun x=>by omega) t.2.2.1;unfold Zaz;omega
theorem ZqQ {x:Tapi_Input}(h:x∈t.2.1):60+(x.2.2.map fun s=>20+s.length).sum≤Zaz t:=by
 have:=Zlj (fun x:Tapi_Input=>60+(x.2.2.map fun s=>20+s.length).sum) h;unfold Zaz;omega
theorem ZpN {o:Tapi_Output}(h:o∈t.2.2.1):60+o.2.length≤Zaz t:=by
 have:=Zlj (fun o:Tapi_Output=>60+o.2.length) h;unfold Zaz;omega
theorem Zkm {x:Tapi_Input}(h:x∈t.2.1):x.2.2.length≤Zaz t:=by
 have h1:=ZqQ h;have:=Zj8 (fun s:List Int=>20+s.length) 20 (fun x=>by omega) x.2.2;omega
theorem ZpO {x:Tapi_Input}(h:x∈t.2.1){s:List Int}(hs:s∈x.2.2):20+s.length≤Zaz t:=by
 have h1:=ZqQ h;have:=Zlj (fun s:List Int=>20+s.length) hs;omega
end
section
variable {t:Tapi_Tx}{w:Bool}
theorem Zl1 {i:Nat}(h:i<t.2.1.length):ZeT t (i+1)=ZeT t i++ZaH (t.2.1[i]).2.2.length++(t.2.1[i]).2.2.flatMap bytesB:=by
 simp only[ZeT,ZaZ ZlZ h,ZlZ,List.append_assoc]
theorem ZpP {i:Nat}(h:i<t.2.1.length):(ZeT t i++ZaH (t.2.1[i]).2.2.length).length+((t.2.1[i]).2.2.flatMap bytesB).length+50≤Zaz t:=by
 have:=ZnY (t:=t) (i+1);rw[Zl1 h] at this;simp only[List.length_append] at this ⊢;omega
theorem ZqR {x:Tapi_Input}{j:Nat}(h:j<x.2.2.length):((x.2.2.take j).flatMap bytesB).length+(bytesB x.2.2[j]).length≤(x.2.2.flatMap bytesB).length:=by
 have:=ZdM x.2.2 bytesB (j+1);rw[ZaZ bytesB h] at this;simpa using this
theorem Zvp (hM:Zaz t≤1000000000000){i:Nat}(h:i<t.2.1.length){q:List Int}(hq:q.length+((t.2.1[i]).2.2.flatMap bytesB).length+50≤Zaz t) :
  Ze (Zdo t.2.1[i] (i:Int)) (0,q)=some (.inl (((i+1:Nat):Int),q++(t.2.1[i]).2.2.flatMap bytesB)):=by
 have hmem:=List.getElem_mem h;have hwl:=Zkm hmem;have hil:=Ziu t;generalize t.2.1[i]=x at hq hmem hwl ⊢
 have:=ZG (step:=Zdo x (i:Int)) (fun j=>((j:Int),q++(x.2.2.take j).flatMap bytesB)) x.2.2.length (x:=some (.inl (((i+1:Nat):Int),q++x.2.2.flatMap bytesB))) (fun j hj=>by
  simp only[Zdo];have h1:=ZqR hj;have h2:=ZpO hmem (List.getElem_mem hj);rw[if_pos (by omega),Zi hj,ZlY (by simp; omega),Za,Zj (by simp only[List.length_append,List.nil_append]; omega),Zu hj (by omega),ZaZ bytesB hj];simp) (by
  simp only[Zdo];rw[if_neg (by omega)]
  simp only[Zce,List.take_length,Zu h (by omega)])
 simpa using this
theorem Zxp (hM:Zaz t≤1000000000000):Za6 t (Zf2 t t.2.2.1.length) w=some (Xi t w):=by
 have hil:=Ziu t;have h2:=ZkP (t:=t) t.2.2.1.length;unfold Za6;rw[Zh0 (by simp),Za,Zj (by simp; omega)];have he:Zf2 t t.2.2.1.length++([]++Yh (IntKind.u64.wrap t.2.2.2) 4)=ZeT t 0:=by simp[Zf2,ZeT]
 rw[he];cases w with
 | false=>simp[Xi,ZeT]
 | true =>
  rw[if_neg (by simp)]
  have:=ZG (step:=ZeY t) (fun i=>((i:Int),ZeT t i)) t.2.1.length (x:=some (Xi t true)) (fun i hi=>by
   have h3:=ZpP hi;have h5:=Zkm (List.getElem_mem hi);simp only[ZeY];rw[if_pos (by omega),Zi hi,Zfz (by omega),ZjH (by omega) (by simp),Za,Zj (by simp only[List.length_append,List.nil_append] at h3 ⊢; omega),List.nil_append,Zvp hM hi h3,Zl1 hi]) (by
   simp only[ZeY];rw[if_neg (by omega)]
   simp[Zcd,ZeT,Xi])
  simpa using this
theorem Zox {i:Nat}(h:i<t.2.2.1.length):Zf2 t (i+1)=Zf2 t i++Yh (IntKind.u64.wrap (t.2.2.1[i]).1) 8++bytesB (t.2.2.1[i]).2:=by
 simp only[Zf2,ZaZ Zf0 h,Zf0,List.append_assoc]
theorem Zxq (hM:Zaz t≤1000000000000):Za7 t (Zf1 t t.2.1.length) w=some (Xi t w):=by
 have hol:=Zow t;have h2:=ZkP (t:=t) 0;have h1:=ZaF t.2.2.1.length;have he:Zf1 t t.2.1.length++ZaH t.2.2.1.length=Zf2 t 0:=by simp[Zf1,Zf2]
 unfold Za7;rw[Zfz (by omega),ZjH (by omega) (by simp),Za,List.nil_append,Zj (by rw[← List.length_append,he]; omega),he]
 have:=ZG (step:=ZeZ t w) (fun i=>((i:Int),Zf2 t i)) t.2.2.1.length (x:=some (Xi t w)) (fun i hi=>by
  have h3:=ZkP (t:=t) (i+1);have h4:=ZpN (List.getElem_mem hi);rw[Zox hi] at h3 ⊢;simp only[List.length_append,Zd1] at h3;simp only[ZeZ];rw[if_pos (by omega),Zi hi,ZsX (by simp),Za,Zj (by simp; omega),ZlY (by simp; omega),Za,Zj (by simp; omega),Zu hi (by omega)];simp) (by
  simp only[ZeZ]
  rw[if_neg (by omega),Zxp hM])
 simpa using this
theorem Zoy {i:Nat}(h:i<t.2.1.length):Zf1 t (i+1)=Zf1 t i++ZiV (t.2.1[i]).1++Yh (IntKind.u64.wrap (t.2.1[i]).2.1) 4:=by
 simp only[Zf1,ZaZ inB h,inB,List.append_assoc]
theorem Zoz (hM:Zaz t≤1000000000000):ZeI t w=some (Xi t w):=by
 have hil:=Ziu t;have h1:=ZaF t.2.1.length;have he:Yh (IntKind.u64.wrap t.1) 4++ZaH t.2.1.length=Zf1 t 0:=by simp[Zf1,Zkl]
 unfold ZeI;rw[Zh0 (by simp),Za,Zfz (by omega),ZjH (by omega) (by simp),Za,List.nil_append,List.nil_append,Zj (by simp; omega),he]
 have:=ZG (step:=Ze0 t w) (fun i=>((i:Int),Zf1 t i)) t.2.1.length (x:=some (Xi t w)) (fun i hi=>by
  have h3:=ZnX (t:=t) (i+1);rw[Zoy hi] at h3 ⊢;simp only[List.length_append,Zd1,Zli] at h3;simp only[Ze0];rw[if_pos (by omega),Zi hi,ZpL,Za,Zj (by simp; omega),Zh0 (by simp),Za,Zj (by simp; omega),Zu hi (by omega)];simp) (by
  simp only[Ze0]
  rw[if_neg (by omega),Zxq hM])
 simpa using this
theorem ZnZ {o:Tapi_Output}(h:o.2.length≤140737488354000):ZdH o=some (Zf0 o):=by
 unfold ZdH;rw[Zvl (by simp),Za,Zou (by simp; omega)];rfl
theorem Zuc (hM:Zaz t≤1000000000000){i:Nat}(h:i<t.2.1.length){q:List Int}(hq:q.length+((t.2.1[i]).2.2.flatMap bytesB).length+50≤Zaz t) :
  Ze (Zbj t.2.1[i] (i:Int)) (0,q)=some (.inl (((i+1:Nat):Int),q++(t.2.1[i]).2.2.flatMap bytesB)):=by
 have hmem:=List.getElem_mem h;have hwl:=Zkm hmem;have hil:=Ziu t;generalize t.2.1[i]=x at hq hmem hwl ⊢
 have:=ZG (step:=Zbj x (i:Int)) (fun j=>((j:Int),q++(x.2.2.take j).flatMap bytesB)) x.2.2.length (x:=some (.inl (((i+1:Nat):Int),q++x.2.2.flatMap bytesB))) (fun j hj=>by
  simp only[Zbj];have h1:=ZqR hj;have h2:=ZpO hmem (List.getElem_mem hj);rw[if_pos (by omega),Zi hj,Zou (by simp only[List.length_append]; omega),Za,Zu hj (by omega),ZaZ bytesB hj];simp) (by
  simp only[Zbj];rw[if_neg (by omega)]
  simp only[Zaq,List.take_length,Zu h (by omega)])
 simpa using this
theorem Zwj (hM:Zaz t≤1000000000000):XL (Zf2 t t.2.2.1.length) t w=some (Xi t w):=by
 have hil:=Ziu t;have h2:=ZkP (t:=t) t.2.2.1.length;unfold XL;rw[ZdB (by omega),Za];have he:Zf2 t t.2.2.1.length++Yh (IntKind.u64.wrap t.2.2.2) 4=ZeT t 0:=by simp[Zf2,ZeT]
 rw[he];cases w with
 | false =>
  by_cases h0:(0:Int)<t.2.1.length
  ·refine YU ?_
   simp only[Zar];rw[if_pos h0,show(0:Int)=((0:Nat):Int) from rfl,Zi (by omega)];simp[YX,Xi,ZeT]
  ·refine YU ?_
   simp only[Zar];rw[if_neg h0];simp[YX,Xi,ZeT]
 | true =>
  have:=ZG (step:=Zar t true) (fun i=>((i:Int),ZeT t i)) t.2.1.length (x:=some (Xi t true)) (fun i hi=>by
   have h3:=ZpP hi;have h4:=ZnY (t:=t) i;have h5:=Zkm (List.getElem_mem hi);simp only[Zar];rw[if_pos (by omega),Zi hi,if_neg (by simp),Zfz (by omega),Zj7 (by omega) (by omega),Za,Zuc hM hi h3,Zl1 hi]) (by
   simp only[Zar];rw[if_neg (by omega)]
   simp[YX,ZeT,Xi])
  simpa using this
theorem Zwk (hM:Zaz t≤1000000000000):XM (Zf1 t t.2.1.length) t w=some (Xi t w):=by
 have hol:=Zow t;have h0:=ZnX (t:=t) t.2.1.length;have he:Zf1 t t.2.1.length++ZaH t.2.2.1.length=Zf2 t 0:=by simp[Zf1,Zf2]
 unfold XM;rw[Zfz (by omega),Zj7 (by omega) (by omega),Za,he]
 have:=ZG (step:=ZcX t w) (fun i=>((i:Int),Zf2 t i)) t.2.2.1.length (x:=some (Xi t w)) (fun i hi=>by
  have h3:=ZkP (t:=t) (i+1);have h4:=ZpN (List.getElem_mem hi);rw[Zox hi] at h3 ⊢;simp only[List.length_append,Zd1] at h3;simp only[ZcX];rw[if_pos (by omega),Zi hi,ZnZ (by omega),Za,Zj (by simp only[Zf0,List.length_append,Zd1]; omega),Zu hi (by omega)];simp[Zf0]) (by
  simp only[ZcX]
  rw[if_neg (by omega),Zwj hM])
 simpa using this
theorem Zjy (hM:Zaz t≤1000000000000):Zal t w=some (Xi t w):=by
 have hil:=Ziu t;have he:Yh (IntKind.u64.wrap t.1) 4++ZaH t.2.1.length=Zf1 t 0:=by simp[Zf1,Zkl]
 unfold Zal;rw[ZdB (by simp),Za,Zfz (by omega),Zj7 (by omega) (by simp),Za,List.nil_append,he]
 have:=ZG (step:=ZcY t w) (fun i=>((i:Int),Zf1 t i)) t.2.1.length (x:=some (Xi t w)) (fun i hi=>by
  have h3:=ZnX (t:=t) (i+1);rw[Zoy hi] at h3 ⊢;simp only[List.length_append,Zd1,Zli] at h3;simp only[ZcY];rw[if_pos (by omega),Zi hi,Zov,Za,Zj (by simp; omega),ZdB (by simp; omega),Za,Zu hi (by omega)]) (by
  simp only[ZcY]
  rw[if_neg (by omega),Zwk hM])
 simpa using this
def Ziv (t:Tapi_Tx):Prop:=t.2.1.length≤64∧t.2.2.1.length≤64∧(∀ o∈t.2.2.1,0≤o.1∧o.2.length≤520)∧∀ x∈t.2.1,x.2.2.length≤32∧∀ s∈x.2.2,s.length≤520
noncomputable def Yq (t:Tapi_Tx):Bool:=by classical exact decide (Ziv t∧(Xi t true).length≤20000)
theorem Zj9 {α:Type}(g:α→Nat) (c:Nat){l:List α}(h:∀ a∈l,g a≤c):(l.map g).sum≤c * l.length:=by
 induction l with
 | nil=>simp
 | cons a l ih =>
  have h1:=h a (by simp);have h2:=ih fun b hb=>h b (by simp[hb])
  simp only[List.map_cons,List.sum_cons,List.length_cons,Nat.mul_add];omega
theorem Zo3 (h:Ziv t):Zaz t≤3000000:=by
 obtain⟨h1,h2,h3,h4⟩:=h
 have e1:=Zj9 (fun x:Tapi_Input=>60+(x.2.2.map fun s=>20+s.length).sum) 20000 (l:=t.2.1) (fun x hx=>by
  obtain⟨g1,g2⟩:=h4 x hx;have:=Zj9 (fun s:List Int=>20+s.length) 540 (l:=x.2.2) (fun s hs=>by have:=g2 s hs; omega);have:=Nat.mul_le_mul_left 540 g1
  omega)
 have e2:=Zj9 (fun o:Tapi_Output=>60+o.2.length) 600 (l:=t.2.2.1) (fun o ho=>by have:=(h3 o ho).2; omega);have:=Nat.mul_le_mul_left 20000 h1;have:=Nat.mul_le_mul_left 600 h2;unfold Zaz;omega
theorem Zlk (h:Yq t=true):Zaz t≤1000000000000:=by
 classical
 unfold Yq at h;simp only[decide_eq_true_eq] at h;have:=Zo3 h.1;omega
end
section
theorem Zvq {t:Tapi_Tx}{w:Bool}:(Xi t w).length≤Zaz t:=by
 have h1:=ZnY (t:=t) t.2.1.length
 have h2:(Xi t w).length≤(ZeT t t.2.1.length).length:=by
  cases w <;> simp[Xi,ZeT]
 omega
theorem ZpQ {x:Tapi_Input}{i n:Nat}(hi:i<n) (hn:n≤64) (hw:x.2.2.length≤32):Ze (ZdQ x (i:Int)) 0=(if ∃ s∈x.2.2,520<s.length then some (.inr false) else some (.inl ((i+1:Nat):Int))):=by
 refine Zd0 (step:=ZdQ x (i:Int)) (fun j=>(j:Int)) x.2.2 (fun s=>520<s.length) (some (.inr false)) (some (.inl ((i+1:Nat):Int))) (fun j hj hb=>?_) (fun j hj hb=>?_) ?_ rfl
 ·simp only[ZdQ]
  rw[if_pos (by omega),Zi hj,if_neg (by omega),Zu hj (by omega)]
 ·simp only[ZdQ]
  rw[if_pos (by omega),Zi hj,if_pos (by omega)];rfl
 ·simp only[ZdQ]
  rw[if_neg (by omega)];simp only[Zfi,Zu hi (by omega)]
theorem ZqS (t:Tapi_Tx):Zha t=some (Yq t):=by
 classical
 unfold Zha Yq;by_cases h0:64<t.2.1.length∨64<t.2.2.1.length
 ·rw[if_pos (by omega)]
  have:¬ Ziv t:=fun h=>by have:=h.1; have:=h.2.1; omega
  simp[this]
 ·rw[if_neg (by omega)]
  have h1:=Zd0 (step:=Zfk t) (fun i=>(i:Int)) t.2.2.1 (fun o=>o.1<0∨520<o.2.length) (some false) (ZdR t) (fun i hi hb=>by
   simp only[Zfk];rw[if_pos (by omega),Zi hi,if_neg (by omega),Zu hi (by omega)]) (fun i hi hb=>by
   simp only[Zfk];rw[if_pos (by omega),Zi hi,if_pos (by omega)];rfl) (by
   simp only[Zfk]
   rw[if_neg (by omega)]) (s:=0) rfl
  rw[h1];by_cases hb1:∃ o∈t.2.2.1,o.1<0∨520<o.2.length
  ·rw[if_pos hb1]
   obtain⟨o,ho,hb⟩:=hb1;have:¬ Ziv t:=fun h=>by have:=h.2.2.1 o ho; omega
   simp[this]
  ·rw[if_neg hb1]
   unfold ZdR
   have h2:=Zd0 (step:=Zfj t) (fun i=>(i:Int)) t.2.1 (fun x=>32<x.2.2.length∨∃ s∈x.2.2,520<s.length) (some false) (ZdP t) (fun i hi hb=>by
    have h3:¬ 32<(t.2.1[i]).2.2.length:=fun h=>hb (.inl h)
    have h4:¬ ∃ s∈(t.2.1[i]).2.2,520<s.length:=fun h=>hb (.inr h)
    simp only[Zfj];rw[if_pos (by omega),Zi hi,if_neg (by omega),ZpQ hi (by omega) (by omega),if_neg h4]) (fun i hi hb=>by
    simp only[Zfj];rw[if_pos (by omega),Zi hi];by_cases h3:32<(t.2.1[i]).2.2.length
    ·rw[if_pos (by omega)]
     rfl
    ·rw[if_neg (by omega),ZpQ hi (by omega) (by omega),if_pos (hb.resolve_left h3)]
     rfl) (by
    simp only[Zfj]
    rw[if_neg (by omega)]) (s:=0) rfl
   rw[h2];by_cases hb2:∃ x∈t.2.1,32<x.2.2.length∨∃ s∈x.2.2,520<s.length
   ·rw[if_pos hb2]
    obtain⟨x,hx,hb⟩:=hb2
    have:¬ Ziv t:=fun h=>by
     obtain⟨g1,g2⟩:=h.2.2.2 x hx;rcases hb with hb | ⟨s,hs,hb⟩
     ·omega
     ·have:=g2 s hs; omega
    simp[this]
   ·rw[if_neg hb2]
    have hlim:Ziv t:=by
     refine⟨by omega,by omega,fun o ho=>?_,fun x hx=>⟨?_,fun s hs=>?_⟩⟩
     ·have:¬ (o.1<0∨520<o.2.length):=fun h=>hb1 ⟨o,ho,h⟩
      omega
     ·have:¬ 32<x.2.2.length:=fun h=>hb2 ⟨x,hx,.inl h⟩
      omega
     ·have:¬ 520<s.length:=fun h=>hb2 ⟨x,hx,.inr ⟨s,hs,h⟩⟩
      omega
    unfold ZdP;rw[Zoz (by have:=Zo3 hlim; omega),Za];have e:(((Xi t true).length:Int)≤20000)↔((Xi t true).length≤20000):=by omega
    simp[hlim,e]
theorem ZoA {x:Tapi_Input}{i n:Nat}(hi:i<n) (hn:n≤64) (hw:x.2.2.length≤32):Ze (Zbl x (i:Int)) 0=(if ∃ s∈x.2.2,520<s.length then some (.inr false) else some (.inl ((i+1:Nat):Int))):=by
 refine Zd0 (step:=Zbl x (i:Int)) (fun j=>(j:Int)) x.2.2 (fun s=>520<s.length) (some (.inr false)) (some (.inl ((i+1:Nat):Int))) (fun j hj hb=>?_) (fun j hj hb=>?_) ?_ rfl
 ·simp only[Zbl]
  rw[if_pos (by omega),Zi hj,if_neg (by omega),Zu hj (by omega)]
 ·simp only[Zbl]
  rw[if_pos (by omega),Zi hj,if_pos (by omega)];rfl
 ·simp only[Zbl]
  rw[if_neg (by omega)];simp only[ZcD,Zu hi (by omega)]
theorem ZeU (t:Tapi_Tx):Zag t=some (Yq t):=by
 classical
 unfold Zag Yq;by_cases h0:64<t.2.1.length∨64<t.2.2.1.length
 ·rw[if_pos (by omega)]
  have:¬ Ziv t:=fun h=>by have:=h.1; have:=h.2.1; omega
  simp[this]
 ·rw[if_neg (by omega)]
  have h1:=Zd0 (step:=ZcF t) (fun i=>(i:Int)) t.2.2.1 (fun o=>o.1<0∨520<o.2.length) (some false) (Zbm t) (fun i hi hb=>by
   simp only[ZcF];rw[if_pos (by omega),Zi hi,if_neg (by omega),Zu hi (by omega)]) (fun i hi hb=>by
   simp only[ZcF];rw[if_pos (by omega),Zi hi,if_pos (by omega)];rfl) (by
   simp only[ZcF]
   rw[if_neg (by omega)]) (s:=0) rfl
  rw[h1];by_cases hb1:∃ o∈t.2.2.1,o.1<0∨520<o.2.length
  ·rw[if_pos hb1]
   obtain⟨o,ho,hb⟩:=hb1;have:¬ Ziv t:=fun h=>by have:=h.2.2.1 o ho; omega
   simp[this]
  ·rw[if_neg hb1]
   unfold Zbm
   have h2:=Zd0 (step:=ZcE t) (fun i=>(i:Int)) t.2.1 (fun x=>32<x.2.2.length∨∃ s∈x.2.2,520<s.length) (some false) (Zbk t) (fun i hi hb=>by
    have h3:¬ 32<(t.2.1[i]).2.2.length:=fun h=>hb (.inl h)
    have h4:¬ ∃ s∈(t.2.1[i]).2.2,520<s.length:=fun h=>hb (.inr h)
    simp only[ZcE];rw[if_pos (by omega),Zi hi,if_neg (by omega),ZoA hi (by omega) (by omega),if_neg h4]) (fun i hi hb=>by
    simp only[ZcE];rw[if_pos (by omega),Zi hi];by_cases h3:32<(t.2.1[i]).2.2.length
    ·rw[if_pos (by omega)]
     rfl
    ·rw[if_neg (by omega),ZoA hi (by omega) (by omega),if_pos (hb.resolve_left h3)]
     rfl) (by
    simp only[ZcE]
    rw[if_neg (by omega)]) (s:=0) rfl
   rw[h2];by_cases hb2:∃ x∈t.2.1,32<x.2.2.length∨∃ s∈x.2.2,520<s.length
   ·rw[if_pos hb2]
    obtain⟨x,hx,hb⟩:=hb2
    have:¬ Ziv t:=fun h=>by
     obtain⟨g1,g2⟩:=h.2.2.2 x hx;rcases hb with hb | ⟨s,hs,hb⟩
     ·omega
     ·have:=g2 s hs; omega
    simp[this]
   ·rw[if_neg hb2]
    have hlim:Ziv t:=by
     refine⟨by omega,by omega,fun o ho=>?_,fun x hx=>⟨?_,fun s hs=>?_⟩⟩
     ·have:¬ (o.1<0∨520<o.2.length):=fun h=>hb1 ⟨o,ho,h⟩
      omega
     ·have:¬ 32<x.2.2.length:=fun h=>hb2 ⟨x,hx,.inl h⟩
      omega
     ·have:¬ 520<s.length:=fun h=>hb2 ⟨x,hx,.inr ⟨s,hs,h⟩⟩
      omega
    unfold Zbk;rw[Zjy (by have:=Zo3 hlim; omega),Za];have e:(((Xi t true).length:Int)≤20000)↔((Xi t true).length≤20000):=by omega
    simp[hlim,e]
end
def Nx {σ ρ:Type}(I:Nat→σ→Prop) (Q:ρ→Prop) (n:Nat):σ ⊕ ρ→Prop
 | .inl s=>∃ j,j<n∧I j s
 | .inr r=>Q r
theorem ZI {σ ρ:Type}{step:σ→Option (σ ⊕ ρ)}{I:Nat→σ→Prop}{Q:ρ→Prop}(h:∀ n s,I n s→Tot (step s) (Nx I Q n)){n:Nat}{s:σ}(hs:I n s):Tot (Ze step s) Q:=by
 refine Zak I Q (fun i s hi=>?_) n s hs;obtain⟨x,h1,h2⟩:=h i s hi;cases x with
 | inl s' =>
  obtain⟨j,hj,h3⟩:=h2;exact .inl ⟨j,s',hj,h1,h3⟩
 | inr r=>exact .inr ⟨r,h1,h2⟩
theorem Tot.out {σ ρ:Type}{I:Nat→σ→Prop}{Q:ρ→Prop}{n:Nat}{x:Option ρ}(h:Tot x Q):Tot (x.map .inr) (Nx I Q n):=by
 obtain⟨r,rfl,h⟩:=h;exact⟨_,rfl,h⟩
theorem Zw {α:Type}{p:Prop}[Decidable p]{f:Unit→Option α}{Q:α→Prop}(hp:p) (h:Tot (f ()) Q):Tot ((chk p).bind f) Q:=by rw[Zj hp]; exact h
theorem XW {α β:Type}{l:List α}{i:Int}{f:α→Option β}{Q:β→Prop}(h0:0≤i) (h1:i<l.length) (h:∀ x∈l,Tot (f x) Q):Tot ((idx l i).bind f) Q:=by
 obtain⟨n,rfl⟩:=Int.eq_ofNat_of_zero_le h0;rw[Zi (by omega)];exact h _ (List.getElem_mem _)
theorem Xe {β:Type}{n:Nat}{i:Int}{f:Nat→Option β}{Q:β→Prop}(h0:0≤i) (h1:i<n) (h:∀ j:Nat,(j:Int)=i→j<n→Tot (f j) Q):Tot ((inA n i).bind f) Q:=by
 obtain⟨m,rfl⟩:=Int.eq_ofNat_of_zero_le h0;rw[YS (by omega)];exact h _ rfl (by omega)
theorem ZdC {α β:Type}{l:List α}{i:Nat}{f:α→Option β}{Q:β→Prop}(h1:i<l.length) (h:∀ x,l[i]? = some x→Tot (f x) Q):Tot ((l[i]?).bind f) Q:=by
 rw[Zis h1];exact h _ (List.getElem?_eq_getElem h1)
theorem ZrQ {α β:Type}{l:List α}(f:β→α→β) (b:β){i:Nat}(h:i<l.length):(l.take (i+1)).foldl f b=f ((l.take i).foldl f b) l[i]:=by
 rw[List.take_succ_eq_append_getElem h,List.foldl_append];rfl
theorem ZeV {σ ρ:Type}{step:σ→Option (σ ⊕ ρ)}(enc:Nat→σ) (n:Nat) (bad:Nat→Prop) (rb x:Option ρ) [inst:Decidable (∃ i,i<n∧bad i)] (h:∀ i,i<n→(∀ j,j<i→¬ bad j)→¬ bad i→step (enc i)=some (.inl (enc (i+1)))) (hb:∀ i,i<n→(∀ j,j<i→¬ bad j)→bad i→step (enc i)=rb.map .inr) (he:(∀ j,j<n→¬ bad j)→step (enc n)=x.map .inr){s:σ}(hs:s=enc 0):Ze step s=if ∃ i,i<n∧bad i then rb else x:=by
 subst hs;by_cases hx:∃ i,i<n∧bad i
 ·rw[if_pos hx]
  obtain⟨m,hm,hbm,hmin⟩:=Zot bad n hx;exact ZG enc m (fun i hi=>h i (by omega) (fun j hj=>hmin j (by omega)) (hmin i hi)) (hb m hm hmin hbm)
 ·rw[if_neg hx]
  have hn:∀ i,i<n→¬ bad i:=fun i hi hbi=>hx ⟨i,hi,hbi⟩
  exact ZG enc n (fun i hi=>h i hi (fun j hj=>hn j (by omega)) (hn i hi)) (he hn)
def sumI:List Int→Int
 | []=>0
 | a :: l=>a+sumI l
theorem ZpR (l m:List Int):sumI (l++m)=sumI l+sumI m:=by
 induction l with
 | nil=>simp[sumI]
 | cons a l ih=>simp only[List.cons_append,sumI,ih]; omega
theorem ZcA {l:List Int}{i:Nat}(h:i<l.length):sumI (l.take (i+1))=sumI (l.take i)+l[i]:=by
 rw[List.take_succ_eq_append_getElem h,ZpR];simp[sumI]
theorem Zhk {l:List Int}(h:∀ v∈l,0≤v):0≤sumI l:=by
 induction l with
 | nil=>simp[sumI]
 | cons a l ih =>
  have h1:=h a (by simp);have h2:=ih fun v hv=>h v (by simp[hv])
  simp only[sumI];omega
theorem Zl2 {l:List Int}(h:∀ v∈l,0≤v) (i:Nat):sumI (l.take i)≤sumI l:=by
 have h1:sumI l=sumI (l.take i)+sumI (l.drop i):=by rw[← ZpR,List.take_append_drop]
 have h2:=Zhk (l:=l.drop i) fun v hv=>h v (List.mem_of_mem_drop hv)
 omega
theorem ZqT {l:List Int}{c:Int}(h:∀ v∈l,v≤c):sumI l≤l.length * c:=by
 induction l with
 | nil=>simp[sumI]
 | cons a l ih =>
  have h1:=h a (by simp);have h2:=ih fun v hv=>h v (by simp[hv])
  simp only[sumI,List.length_cons];have:((l.length+1:Nat):Int) * c=(l.length:Int) * c+c:=by rw[Int.natCast_add,Int.add_mul]; simp
  omega
theorem Zmp (vs:List Int) (M:Int) (hM:0≤M):(∃ i,i<vs.length∧∃ h:i<vs.length,vs[i]<0∨M<sumI (vs.take (i+1)))↔(∃ v∈vs,v<0∨M<v)∨M<sumI vs:=by
 by_cases hneg:∃ v∈vs,v<0
 ·obtain⟨v,hv,hv0⟩:=hneg
  obtain⟨i,hi,rfl⟩:=List.getElem_of_mem hv;exact⟨fun _=>.inl ⟨_,hv,.inl hv0⟩,fun _=>⟨i,hi,hi,.inl hv0⟩⟩
 ·have hp:∀ v∈vs,0≤v:=fun v hv=>by
   have:¬ v<0:=fun h=>hneg ⟨v,hv,h⟩
   omega
  constructor
  ·rintro⟨i,_,hi,hb⟩
   have h1:=hp _ (List.getElem_mem hi);have h2:=Zl2 hp (i+1);exact .inr (by omega)
  ·intro h
   have key:M<sumI vs→∃ i,i<vs.length∧∃ h:i<vs.length,vs[i]<0∨M<sumI (vs.take (i+1)):=by
    intro hs
    have hn:0<vs.length:=by
     rcases Nat.eq_zero_or_pos vs.length with h0 | h0
     ·have:=List.length_eq_zero_iff.1 h0
      subst this;simp only[sumI] at hs;omega
     ·exact h0
    refine⟨vs.length-1,by omega,by omega,.inr ?_⟩;rw[show vs.length-1+1=vs.length by omega,List.take_length];exact hs
   rcases h with ⟨v,hv,hb⟩ | hs
   ·have h0:=hp v hv
    obtain⟨i,hi,rfl⟩:=List.getElem_of_mem hv;refine⟨i,hi,hi,.inr ?_⟩;rw[ZcA hi];have:=Zhk (l:=vs.take i) fun v hv=>hp v (List.mem_of_mem_take hv)
    omega
   ·exact key hs
theorem ZsY {K V:Type}[DecidableEq K] (k a:K) (v:V) (l:List (K×V)):Zcc k (ZeG a v l)=if k=a then some v else Zcc k l:=by
 induction l with
 | nil=>simp[ZeG,Zcc]
 | cons x l ih =>
  obtain⟨b,w⟩:=x;simp only[ZeG];by_cases h:a=b
  ·subst h
   rw[if_pos rfl];simp only[Zcc];by_cases hk:k=a <;> simp[hk]
  ·rw[if_neg h]
   simp only[Zcc,ih];by_cases hk:k=b
   ·subst hk
    simp[Ne.symm h]
   ·simp[hk]
def Zn0 (l:List Tapi_OutPoint):List (Tapi_OutPoint×Bool):=l.foldl (fun m p=>ZeG p true m) []
theorem Zll (k:Tapi_OutPoint) (l:List Tapi_OutPoint):((Zcc k (Zn0 l)).getD false=true)↔k∈l:=by
 have key:∀ (l:List Tapi_OutPoint) (m:List (Tapi_OutPoint×Bool)),((Zcc k (l.foldl (fun m p=>ZeG p true m) m)).getD false=true)↔(k∈l∨(Zcc k m).getD false=true):=by
  intro l;induction l with
  | nil=>intro m; simp
  | cons a l ih =>
   intro m;rw[List.foldl_cons,ih,ZsY];by_cases h:k=a
   ·simp[h]
   ·simp[h]
 have:=key l [];simpa[Zn0,Zcc] using this
theorem ZsZ {l:List Tapi_OutPoint}{i:Nat}(h:i<l.length):Zn0 (l.take (i+1))=ZeG l[i] true (Zn0 (l.take i)):=by
 unfold Zn0;rw[List.take_succ_eq_append_getElem h,List.foldl_append];rfl
abbrev nullP:Tapi_OutPoint:=(zA 32,4294967295)
def cbS (t:Tapi_Tx):Bool:=match t.2.1 with
 | [x]=>decide (x.1=nullP)
 | _=>false
theorem ZrR (t:Tapi_Tx):ZcZ t=some (cbS t):=by
 obtain⟨a,ins,outs,l⟩:=t;unfold ZcZ Zj0 cbS
 match ins with
 | []=>simp
 | [x]=>simp[Prod.ext_iff]
 | x :: y :: l =>
  have:¬ ((x :: y :: l).length:Int)=1:=by simp only[List.length_cons]; omega
  dsimp only;simp only[if_neg this,decide_eq_false this];rfl
theorem Zl3 (t:Tapi_Tx):X5 t=some (cbS t):=by
 rw[← ZrR];rfl
def Z7 (t:Tapi_Tx):List Int:=t.2.2.1.map Prod.fst
def Z1 (t:Tapi_Tx):List Tapi_OutPoint:=t.2.1.map Prod.fst
def ZrS (l:List Tapi_OutPoint):Prop:=∃ i,i<l.length∧∃ h:i<l.length,l[i]∈l.take i
noncomputable def ZgN (t:Tapi_Tx):Int:=by
 classical exact if ¬ Yq t=true then 4 else if t.2.1.length=0∨t.2.2.1.length=0 then 93 else if (2100000000000000:Int)<sumI (Z7 t) then 90 else if ZrS (Z1 t) then 91 else if nullP∈Z1 t∧¬ cbS t=true then 92 else 0
theorem Ziw {t:Tapi_Tx}(h:Yq t=true):Ziv t:=by
 classical
 unfold Yq at h;simp only[decide_eq_true_eq] at h;exact h.1
section
variable {t:Tapi_Tx}
theorem ZpS (h:Ziv t):∀ v∈Z7 t,0≤v:=by
 intro v hv;obtain⟨o,ho,rfl⟩:=List.mem_map.1 hv;exact(h.2.2.1 o ho).1
theorem Zud (h:Ziv t):ZlR t.2.2.1=some (decide (¬ (2100000000000000:Int)<sumI (Z7 t))):=by
 classical
 have hp:=ZpS h;have hl:(Z7 t).length=t.2.2.1.length:=by simp[Z7]
 have hget:∀ i (h1:i<t.2.2.1.length),(Z7 t)[i]'(by omega)=(t.2.2.1[i]).1:=by intro i h1; simp[Z7]
 unfold ZlR;have h64:=h.2.1
 have hbnd:∀ i,(∀ j,j<i→¬ ∃ h:j<(Z7 t).length,(Z7 t)[j]<0∨(2100000000000000:Int)<sumI ((Z7 t).take (j+1)))→i≤(Z7 t).length→0≤sumI ((Z7 t).take i)∧sumI ((Z7 t).take i)≤(2100000000000000:Int):=by
  intro i hj hi;refine⟨Zhk fun v hv=>hp v (List.mem_of_mem_take hv),?_⟩;cases i with
  | zero=>simp[sumI]
  | succ i =>
   have:=hj i (by omega);have h2:¬ (2100000000000000:Int)<sumI ((Z7 t).take (i+1)):=fun h=>this ⟨by omega,.inr h⟩
   omega
 rw[ZeV (s:=(0,0)) (step:=ZfT t.2.2.1) (fun i=>(sumI ((Z7 t).take i),(i:Int))) (Z7 t).length (fun i=>∃ h:i<(Z7 t).length,(Z7 t)[i]<0∨(2100000000000000:Int)<sumI ((Z7 t).take (i+1))) (some false) (some true) ?_ ?_ ?_ rfl]
 ·by_cases hs:(2100000000000000:Int)<sumI (Z7 t)
  ·rw[if_pos ((Zmp _ _ (by decide)).2 (.inr hs))]
   simp[hs]
  ·rw[if_neg]
   ·simp[hs]
   ·intro hb
    rcases(Zmp _ _ (by decide)).1 hb with ⟨v,hv,hb⟩ | hb
    ·have h0:=hp v hv
     have:=(Zmp (Z7 t) (2100000000000000:Int) (by decide)).2 (.inl ⟨v,hv,hb⟩);obtain⟨i,_,hi,hb'⟩:=this;have h1:=hp _ (List.getElem_mem hi);have h2:=Zl2 hp (i+1);omega
    ·exact hs hb
 ·intro i hi hj hb
  have hb0:=hbnd i hj (by omega);have hb1:¬ (2100000000000000:Int)<sumI ((Z7 t).take (i+1)):=fun h=>hb ⟨hi,.inr h⟩
  have h0:=hp _ (List.getElem_mem hi);have hg:=hget i (by omega);rw[ZcA hi] at hb1;simp only[ZfT];rw[if_pos (by omega),Zi (by omega),wi _ (by omega),if_neg (by omega),wi _ (by omega),Zu hi (by omega),ZcA hi,hg]
 ·intro i hi hj hb
  have hb0:=hbnd i hj (by omega);obtain⟨_,hb⟩:=hb;have h0:=hp _ (List.getElem_mem hi);have hg:=hget i (by omega);rw[ZcA hi] at hb;simp only[ZfT];rw[if_pos (by omega),Zi (by omega),wi _ (by omega),if_pos (by omega)];rfl
 ·intro hj
  simp only[ZfT];rw[if_neg (by omega)];rfl
theorem pts_len:(Z1 t).length=t.2.1.length:=by simp[Z1]
theorem Zix {i:Nat}(h1:i<t.2.1.length) (h2:i<(Z1 t).length):(Z1 t)[i]=(t.2.1[i]).1:=by simp[Z1]
theorem Zue (t:Tapi_Tx):ZlT t=some (ZgN t):=by
 classical
 unfold ZlT ZgN;rw[ZqS,Za];by_cases hf:Yq t=true
 ·have hlim:=Ziw hf
  have h64:=hlim.1;have hnf:¬ ¬ Yq t=true:=by simp[hf]
  rw[if_neg hnf,if_neg hnf];by_cases h0:t.2.1.length=0∨t.2.2.1.length=0
  ·rw[if_pos (show(t.2.1.length:Int)=0∨(t.2.2.1.length:Int)=0 by omega),if_pos h0]
  ·rw[if_neg (show ¬ ((t.2.1.length:Int)=0∨(t.2.2.1.length:Int)=0) by omega),if_neg h0,Zud hlim,Za]
   by_cases hs:(2100000000000000:Int)<sumI (Z7 t)
   ·rw[if_pos (by simp[hs]),if_pos hs]
   ·rw[if_neg (by simp[hs]),if_neg hs]
    have hl:=pts_len (t:=t);rw[ZeV (s:=(0,[])) (step:=ZfU t) (fun i=>((i:Int),Zn0 ((Z1 t).take i))) (Z1 t).length (fun i=>∃ h:i<(Z1 t).length,(Z1 t)[i]∈(Z1 t).take i) (some 91) (some (if nullP∈Z1 t∧¬ cbS t=true then 92 else 0)) ?_ ?_ ?_ rfl]
    ·by_cases hd:ZrS (Z1 t)
     ·rw[if_pos (show ∃ i,i<(Z1 t).length∧∃ h:i<(Z1 t).length,(Z1 t)[i]∈(Z1 t).take i from hd),if_pos hd]
     ·rw[if_neg (show ¬ ∃ i,i<(Z1 t).length∧∃ h:i<(Z1 t).length,(Z1 t)[i]∈(Z1 t).take i from hd),if_neg hd]
    ·intro i hi _ hb
     have hg:=Zix (t:=t) (by omega) hi;simp only[ZfU];rw[if_pos (by omega),Zi (by omega),if_neg,Zu hi (by omega),ZsZ hi,hg];rw[← hg,Zll];exact fun h=>hb ⟨hi,h⟩
    ·intro i hi _ hb
     have hg:=Zix (t:=t) (by omega) hi;simp only[ZfU];rw[if_pos (by omega),Zi (by omega),if_pos]
     ·rfl
     ·rw[← hg,Zll]
      exact hb.2
    ·intro _
     simp only[ZfU];rw[if_neg (by omega),List.take_length];unfold ZlS;rw[ZrR];by_cases hn:nullP∈Z1 t
     ·have hn' := (Zll _ _).2 hn
      rw[if_pos hn'];cases hc:cbS t <;> simp[hn,hn']
     ·have hn':¬ _:=fun h=>hn ((Zll nullP (Z1 t)).1 h)
      rw[if_neg hn'];simp[hn,hn']
 ·rw[if_pos hf,if_pos hf]
theorem ZqU {i:Nat}(hi:i<t.2.1.length) (h64:t.2.1.length≤64):(Ze (ZaR (i:Int) t) 0)=(by classical exact if ∃ h:i<(Z1 t).length,(Z1 t)[i]∈(Z1 t).take i then some (.inr 91) else some (.inl ((i+1:Nat):Int))):=by
 classical
 have hl:=pts_len (t:=t);have hgi:=Zix hi (by omega);rw[ZeV (s:=0) (step:=ZaR (i:Int) t) (fun j=>(j:Int)) i (fun j=>∃ h:j<(Z1 t).length,(Z1 t)[i]'(by omega)=(Z1 t)[j]) (some (.inr 91)) (some (.inl ((i+1:Nat):Int))) ?_ ?_ ?_ rfl]
 ·have e:(∃ j,j<i∧∃ h:j<(Z1 t).length,(Z1 t)[i]'(by omega)=(Z1 t)[j])↔∃ h:i<(Z1 t).length,(Z1 t)[i]∈(Z1 t).take i:=by
   constructor
   ·rintro⟨j,hj,hj2,e⟩
    refine⟨by omega,?_⟩;rw[e];exact List.mem_take_iff_getElem.2 ⟨j,by omega,rfl⟩
   ·rintro⟨h,hm⟩
    obtain⟨j,hj,e⟩:=List.mem_take_iff_getElem.1 hm;exact⟨j,by omega,by omega,e.symm⟩
  simp only[e]
 ·intro j hj _ hb
  have hgj:=Zix (t:=t) (i:=j) (by omega) (by omega);simp only[ZaR];rw[if_pos (by omega),Zi (by omega),Zi (by omega),if_neg,Zu hj (by omega)];intro h;exact hb ⟨by omega,by rw[hgi,hgj]; exact Prod.ext h.1 h.2⟩
 ·intro j hj _ hb
  have hgj:=Zix (t:=t) (i:=j) (by omega) (by omega);obtain⟨_,hb⟩:=hb;rw[hgi,hgj] at hb;simp only[ZaR];rw[if_pos (by omega),Zi (by omega),Zi (by omega),if_pos ⟨congrArg Prod.fst hb,congrArg Prod.snd hb⟩];rfl
 ·intro _
  simp only[ZaR];rw[if_neg (by omega)];simp only[ZaQ,Zu hi (by omega)]
theorem Zuf (h64:t.2.1.length≤64):X6 t=(by classical exact some (if nullP∈Z1 t∧¬ cbS t=true then 92 else 0)):=by
 classical
 unfold X6;have hl:=pts_len (t:=t);rw[ZeV (s:=0) (step:=Zb0 t) (fun j=>(j:Int)) (Z1 t).length (fun j=>∃ h:j<(Z1 t).length,(Z1 t)[j]=nullP∧¬ cbS t=true) (some 92) (some 0) ?_ ?_ ?_ rfl]
 ·have e:(∃ j,j<(Z1 t).length∧∃ h:j<(Z1 t).length,(Z1 t)[j]=nullP∧¬ cbS t=true)↔nullP∈Z1 t∧¬ cbS t=true:=by
   constructor
   ·rintro⟨j,_,hj,e,hc⟩
    exact⟨e ▸ List.getElem_mem hj,hc⟩
   ·rintro⟨hm,hc⟩
    obtain⟨j,hj,e⟩:=List.getElem_of_mem hm;exact⟨j,hj,hj,e,hc⟩
  simp only[e];split <;> rfl
 ·intro i hi _ hb
  have hg:=Zix (t:=t) (by omega) hi;simp only[Zb0];rw[if_pos (by omega),Zi (by omega),Zl3];unfold ZdS;rw[Za];by_cases hn:(t.2.1[i]'(by omega)).1=nullP
  ·have hc:cbS t=true:=Decidable.byContradiction fun h=>hb ⟨hi,by rw[hg,hn],h⟩
   rw[hn];simp[hc,Zu hi (show(Z1 t).length≤9223372036854775807 by omega)]
  ·have hn':¬ ((decide ((t.2.1[i]'(by omega)).1.1=zA 32) && decide ((t.2.1[i]'(by omega)).1.2=4294967295))=true):=by
    simp only[Bool.and_eq_true,decide_eq_true_eq];exact fun h=>hn (Prod.ext h.1 h.2)
   rw[if_neg hn',Za,if_neg (fun h=>hn' h.1),Zu hi (by omega)]
 ·intro i hi _ hb
  have hg:=Zix (t:=t) (by omega) hi;obtain⟨_,hb,hc⟩:=hb;rw[hg] at hb;simp only[Zb0];rw[if_pos (by omega),Zi (by omega),Zl3];unfold ZdS;rw[Za,hb];simp[hc]
 ·intro _
  simp only[Zb0];rw[if_neg (by omega)];rfl
theorem ZoB (t:Tapi_Tx):Zc0 t=some (ZgN t):=by
 classical
 unfold Zc0 ZgN;rw[ZeU,Za];by_cases hf:Yq t=true
 ·have hlim:=Ziw hf
  have h64:=hlim.1;have h65:=hlim.2.1;have hp:=ZpS hlim;have hnf:¬ ¬ Yq t=true:=by simp[hf]
  rw[if_neg hnf,if_neg hnf];by_cases h0:t.2.1.length=0∨t.2.2.1.length=0
  ·rw[if_pos (show(t.2.1.length:Int)=0∨(t.2.2.1.length:Int)=0 by omega),if_pos h0]
  ·rw[if_neg (show ¬ ((t.2.1.length:Int)=0∨(t.2.2.1.length:Int)=0) by omega),if_neg h0]
   have hl:(Z7 t).length=t.2.2.1.length:=by simp[Z7]
   have hget:∀ i (h1:i<t.2.2.1.length),(Z7 t)[i]'(by omega)=(t.2.2.1[i]).1:=by intro i h1; simp[Z7]
   have hk1:XE (sumI (Z7 t)) t=some (if (2100000000000000:Int)<sumI (Z7 t) then 90 else if ZrS (Z1 t) then 91 else if nullP∈Z1 t∧¬ cbS t=true then 92 else 0):=by
    unfold XE;by_cases hs:(2100000000000000:Int)<sumI (Z7 t)
    ·rw[if_pos hs,if_pos hs]
    ·rw[if_neg hs,if_neg hs]
     have hl:=pts_len (t:=t);rw[ZeV (s:=0) (step:=Zb1 t) (fun i=>(i:Int)) (Z1 t).length (fun i=>∃ h:i<(Z1 t).length,(Z1 t)[i]∈(Z1 t).take i) (some 91) (some (if nullP∈Z1 t∧¬ cbS t=true then 92 else 0)) ?_ ?_ ?_ rfl]
     ·by_cases hd:ZrS (Z1 t)
      ·rw[if_pos (show ∃ i,i<(Z1 t).length∧∃ h:i<(Z1 t).length,(Z1 t)[i]∈(Z1 t).take i from hd),if_pos hd]
      ·rw[if_neg (show ¬ ∃ i,i<(Z1 t).length∧∃ h:i<(Z1 t).length,(Z1 t)[i]∈(Z1 t).take i from hd),if_neg hd]
     ·intro i hi _ hb
      simp only[Zb1];rw[if_pos (by omega),ZqU (by omega) h64,if_neg hb]
     ·intro i hi _ hb
      simp only[Zb1];rw[if_pos (by omega),ZqU (by omega) h64,if_pos hb];rfl
     ·intro _
      simp only[Zb1];rw[if_neg (by omega),Zuf h64]
   have hbnd:∀ i,(∀ j,j<i→¬ ∃ h:j<(Z7 t).length,(2100000000000000:Int)<(Z7 t)[j])→i≤(Z7 t).length→0≤sumI ((Z7 t).take i)∧sumI ((Z7 t).take i)≤i * (2100000000000000:Int):=by
    intro i hj hi;refine⟨Zhk fun v hv=>hp v (List.mem_of_mem_take hv),?_⟩
    have:=ZqT (l:=(Z7 t).take i) (c:=(2100000000000000:Int)) (fun v hv=>by
     obtain⟨j,hj2,rfl⟩:=List.mem_take_iff_getElem.1 hv;have h1:¬ (2100000000000000:Int)<(Z7 t)[j]:=fun h=>hj j (by omega) ⟨by omega,h⟩
     omega)
    rw[List.length_take,Nat.min_eq_left hi] at this;exact this
   rw[ZeV (s:=(0,0)) (step:=Zb2 t) (fun i=>(sumI ((Z7 t).take i),(i:Int))) (Z7 t).length (fun i=>∃ h:i<(Z7 t).length,(2100000000000000:Int)<(Z7 t)[i]) (some 90) (XE (sumI (Z7 t)) t) ?_ ?_ ?_ rfl]
   ·rw[hk1]
    by_cases hx:∃ i,i<(Z7 t).length∧∃ h:i<(Z7 t).length,(2100000000000000:Int)<(Z7 t)[i]
    ·rw[if_pos hx]
     obtain⟨i,_,hi,hb⟩:=hx;have h1:=Zl2 hp (i+1);rw[ZcA hi] at h1;have h2:=Zhk (l:=(Z7 t).take i) fun v hv=>hp v (List.mem_of_mem_take hv)
     rw[if_pos (by omega)]
    ·rw[if_neg hx]
   ·intro i hi hj hb
    have hb0:=hbnd i hj (by omega);have hb1:¬ (2100000000000000:Int)<(Z7 t)[i]:=fun h=>hb ⟨hi,h⟩
    have h0:=hp _ (List.getElem_mem hi);have hg:=hget i (by omega);have hi64:(i:Int)≤64:=by omega
    simp only[Zb2];rw[if_pos (by omega),Zi (by omega),if_neg (by omega),wi _ (by omega),Zu hi (by omega),ZcA hi,hg]
   ·intro i hi hj hb
    obtain⟨_,hb⟩:=hb;have hg:=hget i (by omega);simp only[Zb2];rw[if_pos (by omega),Zi (by omega),if_pos (by omega)];rfl
   ·intro _
    simp only[Zb2];rw[if_neg (by omega),List.take_length]
 ·rw[if_pos hf,if_pos hf]
end
theorem Zwl {t:Tapi_Tx}(h:ZgN t=0):t.2.1.length≤64∧t.2.2.1.length≤64:=by
 classical
 unfold ZgN at h;by_cases hf:Yq t=true
 ·have:=Ziw hf
  exact⟨this.1,this.2.1⟩
 ·rw[if_pos hf] at h
  omega
def ZL (l:List Tapi_Coin):List Int:=l.map fun c=>c.2.1.1
def Zka (vs:List Int):Prop:=(∃ v∈vs,v<0∨(2100000000000000:Int)<v)∨(2100000000000000:Int)<sumI vs
section
variable {l:List Tapi_Coin}
theorem Znw {i:Nat}(h1:i<l.length) (h2:i<(ZL l).length):(ZL l)[i]=(l[i]).2.1.1:=by simp[ZL]
theorem Zs0 (h64:l.length≤64):Zld l=(by classical exact if Zka (ZL l) then some (0,false) else some (sumI (ZL l),true)):=by
 classical
 have hl:(ZL l).length=l.length:=by simp[ZL]
 have hbnd:∀ i,(∀ j,j<i→¬ ∃ h:j<(ZL l).length,(ZL l)[j]<0∨(2100000000000000:Int)<sumI ((ZL l).take (j+1)))→i≤(ZL l).length→0≤sumI ((ZL l).take i)∧sumI ((ZL l).take i)≤(2100000000000000:Int):=by
  intro i hj hi;refine⟨Zhk fun v hv=>?_,?_⟩
  ·obtain⟨j,hj2,rfl⟩:=List.mem_take_iff_getElem.1 hv
   have h1:¬ (ZL l)[j]<0:=fun h=>hj j (by omega) ⟨by omega,.inl h⟩
   omega
  ·cases i with
   | zero=>simp[sumI]
   | succ i =>
    have h2:¬ (2100000000000000:Int)<sumI ((ZL l).take (i+1)):=fun h=>hj i (by omega) ⟨by omega,.inr h⟩
    omega
 unfold Zld;rw[ZeV (s:=(0,0)) (step:=Ze1 l) (fun i=>(sumI ((ZL l).take i),(i:Int))) (ZL l).length (fun i=>∃ h:i<(ZL l).length,(ZL l)[i]<0∨(2100000000000000:Int)<sumI ((ZL l).take (i+1))) (some (0,false)) (some (sumI (ZL l),true)) ?_ ?_ ?_ rfl]
 ·simp only[Zmp (ZL l) (2100000000000000:Int) (by decide)]
  by_cases hs:Zka (ZL l)
  ·rw[if_pos (show(∃ v∈ZL l,v<0∨(2100000000000000:Int)<v)∨(2100000000000000:Int)<sumI (ZL l) from hs),if_pos hs]
  ·rw[if_neg (show ¬ ((∃ v∈ZL l,v<0∨(2100000000000000:Int)<v)∨(2100000000000000:Int)<sumI (ZL l)) from hs),if_neg hs]
 ·intro i hi hj hb
  have hb0:=hbnd i hj (by omega);have hb1:¬ (2100000000000000:Int)<sumI ((ZL l).take (i+1)):=fun h=>hb ⟨hi,.inr h⟩
  have h0:¬ (ZL l)[i]<0:=fun h=>hb ⟨hi,.inl h⟩
  have hg:=Znw (l:=l) (by omega) hi;rw[ZcA hi] at hb1;simp only[Ze1];rw[if_pos (by omega),Zi (by omega),wi (2100000000000000-_) (by omega),if_neg (by omega),wi _ (by omega),Zu hi (by omega),ZcA hi,hg]
 ·intro i hi hj hb
  have hb0:=hbnd i hj (by omega);obtain⟨_,hb⟩:=hb;have hg:=Znw (l:=l) (by omega) hi;rw[ZcA hi] at hb;simp only[Ze1];rw[if_pos (by omega),Zi (by omega),wi _ (by omega),if_pos (by omega)];rfl
 ·intro hj
  simp only[Ze1];rw[if_neg (by omega),List.take_length];rfl
theorem Zvr {t:Tapi_Tx}(h64:l.length≤64):Za9 l t=(by classical exact if Zka (ZL l) then some (0,90) else Ze (Zam t) (sumI (ZL l),0)):=by
 classical
 have hl:(ZL l).length=l.length:=by simp[ZL]
 have hbnd:∀ i,(∀ j,j<i→¬ ∃ h:j<(ZL l).length,(ZL l)[j]<0∨(2100000000000000:Int)<(ZL l)[j])→i≤(ZL l).length→0≤sumI ((ZL l).take i)∧sumI ((ZL l).take i)≤i * (2100000000000000:Int):=by
  intro i hj hi
  have hp:∀ v∈(ZL l).take i,0≤v∧v≤(2100000000000000:Int):=fun v hv=>by
   obtain⟨j,hj2,rfl⟩:=List.mem_take_iff_getElem.1 hv;have h1:¬ (ZL l)[j]<0:=fun h=>hj j (by omega) ⟨by omega,.inl h⟩
   have h2:¬ (2100000000000000:Int)<(ZL l)[j]:=fun h=>hj j (by omega) ⟨by omega,.inr h⟩
   omega
  refine⟨Zhk fun v hv=>(hp v hv).1,?_⟩;have:=ZqT (l:=(ZL l).take i) (c:=(2100000000000000:Int)) (fun v hv=>(hp v hv).2);rw[List.length_take,Nat.min_eq_left hi] at this;exact this
 unfold Za9;rw[ZeV (s:=(0,0)) (step:=Zdp l t) (fun i=>(sumI ((ZL l).take i),(i:Int))) (ZL l).length (fun i=>∃ h:i<(ZL l).length,(ZL l)[i]<0∨(2100000000000000:Int)<(ZL l)[i]) (some (0,90)) (Zcf (sumI (ZL l)) t) ?_ ?_ ?_ rfl]
 ·by_cases hx:∃ i,i<(ZL l).length∧∃ h:i<(ZL l).length,(ZL l)[i]<0∨(2100000000000000:Int)<(ZL l)[i]
  ·have hs:Zka (ZL l):=by
    obtain⟨i,_,hi,hb⟩:=hx;exact .inl ⟨_,List.getElem_mem hi,hb⟩
   rw[if_pos hx,if_pos hs]
  ·rw[if_neg hx]
   unfold Zcf;by_cases hs:(2100000000000000:Int)<sumI (ZL l)
   ·have hs':Zka (ZL l):=.inr hs
    rw[if_pos hs,if_pos hs']
   ·have hs':¬ Zka (ZL l):=by
     rintro(⟨v,hv,hb⟩ | h)
     ·obtain⟨i,hi,rfl⟩:=List.getElem_of_mem hv
      exact hx ⟨i,hi,hi,hb⟩
     ·exact hs h
    rw[if_neg hs,if_neg hs']
 ·intro i hi hj hb
  have hb0:=hbnd i hj (by omega);have hb1:¬ ((ZL l)[i]<0∨(2100000000000000:Int)<(ZL l)[i]):=fun h=>hb ⟨hi,h⟩
  have hg:=Znw (l:=l) (by omega) hi;have hi64:(i:Int)≤64:=by omega
  simp only[Zdp];rw[if_pos (by omega),Zi (by omega),if_neg (by omega),wi _ (by omega),Zu hi (by omega),ZcA hi,hg]
 ·intro i hi hj hb
  obtain⟨_,hb⟩:=hb;have hg:=Znw (l:=l) (by omega) hi;simp only[Zdp];rw[if_pos (by omega),Zi (by omega),if_pos (by omega)];rfl
 ·intro _
  simp only[Zdp];rw[if_neg (by omega),List.take_length]
end
theorem Zvs (t:Tapi_Tx):Zlx t=Zam t:=by
 funext ⟨a,b⟩
 rfl
def ZpT (n:Int) (l:List Tapi_Output):Int:=l.foldl (fun n x=>IntKind.i64.wrap (n-x.1)) n
theorem Zug {t:Tapi_Tx}(h:t.2.2.1.length≤64) (n:Int):∃ r,Ze (Zam t) (n,0)=some r:=by
 have:=ZG (step:=Zam t) (fun i=>(ZpT n (t.2.2.1.take i),(i:Int))) t.2.2.1.length (x:=Za8 (ZpT n t.2.2.1)) (fun i hi=>by
  simp only[Zam];rw[if_pos (by omega),Zi hi,Zu hi (by omega)];unfold ZpT;rw[ZrQ _ _ hi]) (by
  simp only[Zam]
  rw[if_neg (by omega),List.take_length])
 have e:Ze (Zam t) (n,0)=Za8 (ZpT n t.2.2.1):=by simpa[ZpT] using this
 rw[e];unfold Za8;split <;> exact⟨_,rfl⟩
theorem Zuh (t:Tapi_Tx) (l:List Tapi_Coin):∃ r,Zns t l=some r∧Zf9 t l=some r:=by
 classical
 unfold Zns Zf9;rw[Zue,ZoB,Za,Za];by_cases hc:ZgN t=0
 ·obtain⟨h64,h65⟩:=Zwl hc
  have hnc:¬ ¬ ZgN t=0:=by simp[hc]
  rw[if_neg hnc,if_neg hnc];by_cases hn:(l.length:Int)=(t.2.1.length:Int)
  ·have hnn:¬ ¬ (l.length:Int)=(t.2.1.length:Int):=by simp[hn]
   rw[if_neg hnn,if_neg hnn]
   have hk:∃ r,ZiZ l t=some r∧Za9 l t=some r:=by
    rw[Zvr (by omega)];unfold ZiZ;rw[Zs0 (by omega)];by_cases hs:Zka (ZL l)
    ·rw[if_pos hs,if_pos hs]
     exact⟨_,rfl,rfl⟩
    ·rw[if_neg hs,if_neg hs,Za,if_neg (by simp),Zvs]
     obtain⟨r,hr⟩:=Zug h65 (sumI (ZL l));exact⟨r,hr,hr⟩
   obtain⟨r,hk1,hk2⟩:=hk
   have e1:=Zd0 (s:=0) (step:=Ze2 l t) (fun i=>(i:Int)) (l.zip t.2.1) (fun x=>¬ (x.1.1.1=x.2.1.1∧x.1.1.2=x.2.1.2)) (some (0,101)) (some r) (fun i hi hb=>by
    have hi2:i<l.length:=by simp at hi; omega
    have hi3:i<t.2.1.length:=by simp at hi; omega
    simp only[List.getElem_zip] at hb;simp only[Ze2];rw[if_pos (by omega),Zi hi2,Zi hi3,if_neg hb,Zu hi2 (by omega)]) (fun i hi hb=>by
    have hi2:i<l.length:=by simp at hi; omega
    have hi3:i<t.2.1.length:=by simp at hi; omega
    simp only[List.getElem_zip] at hb;simp only[Ze2];rw[if_pos (by omega),Zi hi2,Zi hi3,if_pos hb];rfl) (by
    have:(l.zip t.2.1).length=l.length:=by simp; omega
    simp only[Ze2]
    rw[if_neg (by omega),hk1]) rfl
   have e2:=Zd0 (s:=0) (step:=Zdq l t) (fun i=>(i:Int)) (l.zip t.2.1) (fun x=>¬ (x.1.1.1=x.2.1.1∧x.1.1.2=x.2.1.2)) (some (0,101)) (some r) (fun i hi hb=>by
    have hi2:i<l.length:=by simp at hi; omega
    have hi3:i<t.2.1.length:=by simp at hi; omega
    simp only[List.getElem_zip] at hb;simp only[Zdq];rw[if_pos (by omega),Zi hi2,Zi hi3,if_neg hb,Zu hi2 (by omega)]) (fun i hi hb=>by
    have hi2:i<l.length:=by simp at hi; omega
    have hi3:i<t.2.1.length:=by simp at hi; omega
    simp only[List.getElem_zip] at hb;simp only[Zdq];rw[if_pos (by omega),Zi hi2,Zi hi3,if_pos hb];rfl) (by
    have:(l.zip t.2.1).length=l.length:=by simp; omega
    simp only[Zdq]
    rw[if_neg (by omega),hk2]) rfl
   rw[e1,e2];split <;> exact⟨_,rfl,rfl⟩
  ·rw[if_pos hn,if_pos hn]
   exact⟨_,rfl,rfl⟩
 ·rw[if_pos hc,if_pos hc]
  exact⟨_,rfl,rfl⟩
theorem ZqV {k:IntKind}(h:k.signed=false) (x:Int):0≤k.wrap x:=by
 cases k <;> simp[IntKind.signed] at h <;> simp[IntKind.wrap,IntKind.signed,IntKind.bits] <;> omega
theorem Zvt {k:IntKind}(h:k.signed=false) (op:BinOp) (x y:Int):0≤bits op k x y:=ZqV h _
def rot (x n:Int):Int:=bits .or .u32 (IntKind.u32.wrap (x * (2 ^ (min (bits .and .u64 (IntKind.u64.wrap n) 31).toNat 32)))) (x.fdiv (2 ^ (min (IntKind.u64.wrap (32-(bits .and .u64 (IntKind.u64.wrap n) 31))).toNat 32)))
theorem Zs1 (x n:Int):YR x n=some (rot x n):=by
 have h1:¬ bits .and .u64 (IntKind.u64.wrap n) 31<0:=by have:=Zvt (k:=.u64) rfl .and (IntKind.u64.wrap n) 31; omega
 have h2:¬ IntKind.u64.wrap (32-bits .and .u64 (IntKind.u64.wrap n) 31)<0:=by have:=ZqV (k:=.u64) rfl (32-bits .and .u64 (IntKind.u64.wrap n) 31); omega
 unfold YR;rw[Zj h1,Zj h2];rfl
def rr (x n:Int):Int:=rot x (IntKind.i64.wrap (-n))
theorem ZiN (x n:Int):XN x n=some (rr x n):=by
 unfold XN;rw[Zs1];rfl
theorem ZgO (x n:Int):YZ x n=some (rr x n):=by
 unfold YZ;rw[Zs1];rfl
def wd (b:Arr 64) (i:Nat):Nat→Int
 | 0=>0
 | j+1=>bits .or .u32 (IntKind.u32.wrap (wd b i j * 256)) (IntKind.u32.wrap (b.at (4 * i+j)))
def Ziy (b:Arr 64):Nat→Arr 64
 | 0=>zA 64
 | i+1=>(Ziy b i).put i (wd b i 4)
theorem ZqW (b:Arr 64):∀ (i j:Nat),i≤j→(Ziy b i).at j=0
 | 0,j,_=>Zxb
 | i+1,j,h=>by
  unfold Ziy;rw[Arr.at_put_ne _ (by omega)];exact ZqW b i j (by omega)
def nxtW (w:Arr 64) (i:Nat):Int:=IntKind.u32.wrap ((IntKind.u32.wrap ((IntKind.u32.wrap ((w.at (i-16))+(bits .xor .u32 (bits .xor .u32 (rr (w.at (i-15)) 7) (rr (w.at (i-15)) 18)) ((w.at (i-15)).fdiv 8))))+(w.at (i-7))))+(bits .xor .u32 (bits .xor .u32 (rr (w.at (i-2)) 17) (rr (w.at (i-2)) 19)) ((w.at (i-2)).fdiv 1024)))
def Zlm (w:Arr 64):Nat→Arr 64
 | 0=>w
 | k+1=>(Zlm w k).put (16+k) (nxtW (Zlm w k) (16+k))
def ZdO (b:Arr 64):Arr 64:=Zlm (Ziy b 16) 48
theorem Za0 {n i:Nat}{z:Int}{β:Type}{f:Nat→Option β}(h:z=(i:Int)) (hi:i<n):(inA n z).bind f=f i:=by
 subst h;exact YS hi
theorem Zwm (w:Arr 64):Zas w=some (Zlm w 48):=by
 unfold Zas
 have:=ZG (step:=Lsha_schedule_s2) (fun k=>(((16+k:Nat):Int),Zlm w k)) 48 (x:=some (Zlm w 48)) (fun k hk=>by
  simp only[Lsha_schedule_s2];rw[if_pos (by omega),Za0 (i:=16+k-15) (by rw[wi _ (by omega)]; omega) (by omega),ZiN,Za,ZiN,Za,Za0 (i:=16+k-2) (by rw[wi _ (by omega)]; omega) (by omega),ZiN,Za,ZiN,Za,Za0 (i:=16+k-16) (by rw[wi _ (by omega)]; omega) (by omega),Za0 (i:=16+k-7) (by rw[wi _ (by omega)]; omega) (by omega),Za0 (i:=16+k) rfl (by omega),wi _ (by omega)];rfl) (by
  simp only[Lsha_schedule_s2];rw[if_neg (by omega)]
  rfl)
 exact this
theorem Zwn (w:Arr 64):ZaB w=some (Zlm w 48):=by
 unfold ZaB
 have:=ZG (step:=Lref03_schedule_s2) (fun k=>(((16+k:Nat):Int),Zlm w k)) 48 (x:=some (Zlm w 48)) (fun k hk=>by
  simp only[Lref03_schedule_s2];rw[if_pos (by omega),Za0 (i:=16+k-15) (by rw[wi _ (by omega)]; omega) (by omega),ZgO,Za,ZgO,Za,Za0 (i:=16+k-2) (by rw[wi _ (by omega)]; omega) (by omega),ZgO,Za,ZgO,Za,Za0 (i:=16+k-16) (by rw[wi _ (by omega)]; omega) (by omega),Za0 (i:=16+k-7) (by rw[wi _ (by omega)]; omega) (by omega),Za0 (i:=16+k) rfl (by omega),wi _ (by omega)];rfl) (by
  simp only[Lref03_schedule_s2];rw[if_neg (by omega)]
  rfl)
 exact this
theorem Zui (b:Arr 64):Zdr b=some (ZdO b):=by
 unfold Zdr;refine ZG (step:=Zc2 b) (fun i=>((i:Int),Ziy b i)) 16 (x:=some (ZdO b)) (fun i hi=>?_) ?_
 ·simp only[Zc2]
  rw[if_pos (by omega)]
  have h0:Ziy b i=(Ziy b i).put i (wd b i 0):=by
   have:=Arr.put_at (Ziy b i) (i:=i) (by omega);rw[ZqW b i i (Nat.le_refl _)] at this;exact this.symm
  have:=ZG (step:=Zat (i:Int) b) (fun j=>((j:Int),(Ziy b i).put i (wd b i j))) 4 (x:=some (.inl (((i+1:Nat):Int),(Ziy b i).put i (wd b i 4)))) (fun j hj=>by
   simp only[Zat];rw[if_pos (by omega),YS (by omega),Za0 (i:=4 * i+j) (by rw[wi (4 * (i:Int)) (by omega),wi _ (by omega)]; omega) (by omega),Arr.at_put _ (by omega),Arr.put_put,Zu hj (by omega)];rfl) (by
   simp only[Zat];rw[if_neg (by omega)]
   simp only[Zbn,Zu hi (show(16:Nat)≤9223372036854775807 by omega)])
  have e:Ze (Zat (i:Int) b) (0,Ziy b i)=_:=(congrArg (fun w=>Ze (Zat (i:Int) b) (0,w)) h0).trans this;rw[e];rfl
 ·simp only[Zc2]
  rw[if_neg (by omega),Zwm];rfl
abbrev bv (x:Int):BitVec 32:=BitVec.ofInt 32 x
theorem Zln (x:Int):IntKind.u32.wrap x=x % 2 ^ 32:=by simp[IntKind.wrap,IntKind.signed,IntKind.bits]
theorem ZqX (x:Int):bv (IntKind.u32.wrap x)=bv x:=by
 rw[Zln];apply BitVec.eq_of_toNat_eq
 simp[BitVec.toNat_ofInt]
theorem Zxr (x y:Int):bv (bits .or .u32 x y)=bv x ||| bv y:=by
 show bv (IntKind.u32.wrap ((bv x ||| bv y).toNat:Nat))=_
 rw[ZqX];generalize bv x ||| bv y=r
 show BitVec.ofInt 32 (r.toNat:Int)=r
 rw[BitVec.ofInt_natCast,BitVec.ofNat_toNat];simp
theorem Zuj {x x' y y':Int}(h1:bv x=bv x') (h2:bv y=bv y'):bits .or .u32 x y=bits .or .u32 x' y' := by
 show IntKind.u32.wrap ((bv x ||| bv y).toNat:Nat)=IntKind.u32.wrap ((bv x' ||| bv y').toNat:Nat)
 rw[h1,h2]
theorem ZpU (x:Int) (k:Nat) (h:BitVec.ofInt 32 (2 ^ k)=BitVec.twoPow 32 k):bv (x * 2 ^ k)=bv x <<< k:=by
 rw[BitVec.shiftLeft_eq_mul_twoPow,← h];exact BitVec.ofInt_mul _ _
def wr (b:Arr 64) (i:Nat):Int:=bits .or .u32 (bits .or .u32 (bits .or .u32 (IntKind.u32.wrap ((IntKind.u32.wrap (b.at (4 * i))) * 16777216)) (IntKind.u32.wrap ((IntKind.u32.wrap (b.at (4 * i+1))) * 65536))) (IntKind.u32.wrap ((IntKind.u32.wrap (b.at (4 * i+2))) * 256))) (IntKind.u32.wrap (b.at (4 * i+3)))
theorem Zxs (b:Arr 64) (i:Nat):wr b i=wd b i 4:=by
 unfold wr;simp only[wd];refine Zuj ?_ rfl;have e8:∀ x,bv (x * 256)=bv x <<< 8:=fun x=>ZpU x 8 (by decide)
 have e16:∀ x,bv (x * 65536)=bv x <<< 16:=fun x=>ZpU x 16 (by decide)
 have e24:∀ x,bv (x * 16777216)=bv x <<< 24:=fun x=>ZpU x 24 (by decide)
 simp only[Zxr,ZqX,e8,e16,e24];have h0:(bv 0) <<< 8=0#32:=by decide
 simp only[h0,BitVec.shiftLeft_or_distrib,← BitVec.shiftLeft_add,BitVec.zero_or,Nat.add_zero]
theorem Zs2 (b:Arr 64):Zb3 b=some (ZdO b):=by
 unfold Zb3;refine ZG (step:=ZbQ b) (fun i=>((i:Int),Ziy b i)) 16 (x:=some (ZdO b)) (fun i hi=>?_) ?_
 ·simp only[ZbQ]
  rw[if_pos (by omega),wi (4 * (i:Int)) (by omega),wi (4 * (i:Int)+1) (by omega),wi (4 * (i:Int)+2) (by omega),wi (4 * (i:Int)+3) (by omega),Za0 (i:=4 * i) (by omega) (by omega),Za0 (i:=4 * i+1) (by omega) (by omega),Za0 (i:=4 * i+2) (by omega) (by omega),Za0 (i:=4 * i+3) (by omega) (by omega),YS (by omega),Zu hi (by omega)];show some (Sum.inl (((i+1:Nat):Int),(Ziy b i).put i (wr b i)))=_
  rw[Zxs];rfl
 ·simp only[ZbQ]
  rw[if_neg (by omega),Zwn];rfl
theorem consts:Lref03_constants=some shaK:=by
 unfold Lref03_constants
 kernel_rfl
theorem inits:Lref03_Initial=some shaInitial:=by
 unfold Lref03_Initial
 kernel_rfl
abbrev St8:=Int×Int×Int×Int×Int×Int×Int×Int
abbrev ad (x y:Int):Int:=IntKind.u32.wrap (x+y)
def t1 (s:St8) (k w:Int):Int:=match s with
 | (a,b,c,d,e,f,g,h)=>ad (ad (ad (ad h (bits .xor .u32 (bits .xor .u32 (rr e 6) (rr e 11)) (rr e 25))) (bits .xor .u32 (bits .and .u32 e f) (bits .and .u32 (bits .xor .u32 4294967295 e) g))) k) w
def t2 (s:St8):Int:=match s with
 | (a,b,c,d,e,f,g,h)=>ad (bits .xor .u32 (bits .xor .u32 (rr a 2) (rr a 13)) (rr a 22)) (bits .xor .u32 (bits .xor .u32 (bits .and .u32 a b) (bits .and .u32 a c)) (bits .and .u32 b c))
def rnd (s:St8) (k w:Int):St8:=match s with
 | (a,b,c,d,e,f,g,h)=>(ad (t1 s k w) (t2 s),a,b,c,ad d (t1 s k w),e,f,g)
def Zkw (w:Arr 64) (s:St8):Nat→St8
 | 0=>s
 | i+1=>rnd (Zkw w s i) (shaK.at i) (w.at i)
def st0 (x:Arr 8):St8:=(x.at 0,x.at 1,x.at 2,x.at 3,x.at 4,x.at 5,x.at 6,x.at 7)
noncomputable def Zm2 (x:Arr 8) (b:Arr 64):Arr 8:=match Zkw (ZdO b) (st0 x) 64 with
 | (a,b,c,d,e,f,g,h)=>((((((((zA 8).put 0 (IntKind.u32.wrap ((x.at 0)+a))).put 1 (IntKind.u32.wrap ((x.at 1)+b))).put 2 (IntKind.u32.wrap ((x.at 2)+c))).put 3 (IntKind.u32.wrap ((x.at 3)+d))).put 4 (IntKind.u32.wrap ((x.at 4)+e))).put 5 (IntKind.u32.wrap ((x.at 5)+f))).put 6 (IntKind.u32.wrap ((x.at 6)+g))).put 7 (IntKind.u32.wrap ((x.at 7)+h))
def Zl4 (s:St8) (i:Nat):Int×Int×Int×Int×Int×Int×Int×Int×Int:=match s with
 | (a,b,c,d,e,f,g,h)=>(a,b,c,d,e,f,g,h,(i:Int))
theorem Zvu (x:Arr 8) (b:Arr 64):Zds x b=some (Zm2 x b):=by
 unfold Zds;rw[Zui,Za];refine ZG (step:=Zc3 (ZdO b) x) (fun i=>Zl4 (Zkw (ZdO b) (st0 x) i) i) 64 (x:=some (Zm2 x b)) (fun i hi=>?_) ?_
 ·show _=some (Sum.inl (Zl4 (rnd (Zkw (ZdO b) (st0 x) i) (shaK.at i) ((ZdO b).at i)) (i+1)))
  obtain⟨a,b',c,d,e,f,g,h⟩:=Zkw (ZdO b) (st0 x) i;simp only[Zl4,Zc3];refine(if_pos (show(i:Int)<64 by omega)).trans ?_;rw[ZiN,Za,ZiN,Za,ZiN,Za,YS hi,ZiN,Za,ZiN,Za,ZiN,Za,Zu hi (by omega)];rfl
 ·unfold Zm2
  obtain⟨a,b',c,d,e,f,g,h⟩:=Zkw (ZdO b) (st0 x) 64;simp only[Zl4,Zc3];exact(if_neg (by decide)).trans rfl
theorem Zuk (x:Arr 8) (b:Arr 64):XF x b=some (Zm2 x b):=by
 unfold XF;rw[Zs2,Za,consts,Za];refine ZG (step:=ZbR shaK (ZdO b) x) (fun i=>Zl4 (Zkw (ZdO b) (st0 x) i) i) 64 (x:=some (Zm2 x b)) (fun i hi=>?_) ?_
 ·show _=some (Sum.inl (Zl4 (rnd (Zkw (ZdO b) (st0 x) i) (shaK.at i) ((ZdO b).at i)) (i+1)))
  obtain⟨a,b',c,d,e,f,g,h⟩:=Zkw (ZdO b) (st0 x) i;simp only[Zl4,ZbR];refine(if_pos (show(i:Int)<64 by omega)).trans ?_;rw[ZgO,Za,ZgO,Za,ZgO,Za,YS hi,ZgO,Za,ZgO,Za,ZgO,Za,Zu hi (by omega)];rfl
 ·unfold Zm2
  obtain⟨a,b',c,d,e,f,g,h⟩:=Zkw (ZdO b) (st0 x) 64;simp only[Zl4,ZbR];exact(if_neg (by decide)).trans rfl
def Zf3 (n:Nat):Nat:=(64-(n+9) % 64) % 64
def ZpV (n:Nat) (j:Nat):Int:=IntKind.u8.wrap ((IntKind.u64.wrap (8 * (n:Int))).fdiv (2 ^ (56-8 * j)))
def Zdh (n:Nat):List Int:=(128 :: List.replicate (Zf3 n) 0)++(List.range 8).map (ZpV n)
theorem Zm3 (n:Nat):(Zdh n).length=9+Zf3 n:=by simp[Zdh]; omega
theorem Zmq (n:Nat):Zf3 n<64:=Nat.mod_lt _ (by omega)
theorem tm {a b:Nat}:((a:Int).tmod (b:Int))=((a % b:Nat):Int):=rfl
theorem Zxt {n:Nat}(hn:n≤1000000000):(IntKind.u64.wrap (64-((IntKind.u64.wrap ((n:Int)+9)).tmod 64))).tmod 64=(Zf3 n:Int):=by
 have e1:IntKind.u64.wrap ((n:Int)+9)=((n+9:Nat):Int):=wu _ (by omega);have e2:((n+9:Nat):Int).tmod 64=(((n+9) % 64:Nat):Int):=rfl;have h:=Nat.mod_lt (n+9) (show 64 > 0 by omega);have e3:IntKind.u64.wrap (64-(((n+9) % 64:Nat):Int))=((64-(n+9) % 64:Nat):Int):=by rw[wu _ (by omega)]; omega
 rw[e1,e2,e3];rfl
theorem Zvv {n:Nat}(hn:n≤1000000000):Zie (n:Int)=some (Zdh n):=by
 have hp:=Zxt hn;have hl:=Zmq n;unfold Zie;rw[hp,wu (1+(Zf3 n:Int)) (by omega),wu (9+(Zf3 n:Int)) (by omega),Zj (by omega),Zj (by simp; omega)]
 have e0:(List.replicate ((1+(Zf3 n:Int)).toNat) (0:Int)).set 0 128=128 :: List.replicate (Zf3 n) 0:=by
  rw[show(1+(Zf3 n:Int)).toNat=Zf3 n+1 by omega,List.replicate_succ];rfl
 rw[e0]
 have:=ZG (step:=ZgI (n:Int)) (fun k=>((k:Int),(128 :: List.replicate (Zf3 n) 0)++(List.range k).map (ZpV n))) 8 (x:=some (Zdh n)) (fun k hk=>by
  simp only[ZgI];rw[if_pos (by omega),wi (8 * (k:Int)) (by omega),wi (56-8 * (k:Int)) (by omega),Zj (by omega),Zj (by simp; omega),Zu hk (by omega)];have e:min (56-8 * (k:Int)).toNat 64=56-8 * k:=by omega
  rw[e,List.range_succ,List.map_append,← List.append_assoc];rfl) (by
  simp only[ZgI];rw[if_neg (by omega)]
  rfl)
 simpa using this
theorem Zul {n:Nat}(hn:n≤1000000000) (b:List Int) (hb:b.length≤1000):Ze (Zdt (n:Int)) (7,b)=some (b++(List.range 8).map (ZpV n)):=by
 have:=ZG (step:=Zdt (n:Int)) (fun k=>(7-(k:Int),b++(List.range k).map (ZpV n))) 8 (x:=some (b++(List.range 8).map (ZpV n))) (fun k hk=>by
  simp only[Zdt];rw[if_pos (by omega),wi (8 * (7-(k:Int))) (by omega),Zj (by omega),Zj (by simp; omega),wi (7-(k:Int)-1) (by omega)];have e:min (8 * (7-(k:Int))).toNat 64=56-8 * k:=by omega
  rw[e,List.range_succ,List.map_append,← List.append_assoc,show 7-(k:Int)-1=7-((k+1:Nat):Int) by omega];rfl) (by
  simp only[Zdt];rw[if_neg (by omega)]
  rfl)
 simpa using this
theorem Zvw {n:Nat}(hn:n≤1000000000):Zgb (n:Int)=some (Zdh n):=by
 have hl:=Zmq n;unfold Zgb
 have key:∀ k,k≤Zf3 n→(IntKind.u64.wrap ((IntKind.u64.wrap ((n:Int)+(IntKind.u64.wrap (((128 :: List.replicate k (0:Int)).length:Nat):Int))))+8)).tmod 64=(((n+k+9) % 64:Nat):Int):=by
  intro k hk;have e:(128 :: List.replicate k (0:Int)).length=k+1:=by simp
  rw[e,wu ((k+1:Nat):Int) (by omega),wu ((n:Int)+((k+1:Nat):Int)) (by omega),wu _ (by omega),show((n:Int)+((k+1:Nat):Int)+8)=((n+k+9:Nat):Int) by omega];exact tm
 have:=ZG (step:=Ze4 (n:Int)) (fun k=>128 :: List.replicate k (0:Int)) (Zf3 n) (x:=some (Zdh n)) (fun k hk=>by
  simp only[Ze4];rw[key k (by omega),if_pos,Zj (by simp; omega)]
  ·rw[List.cons_append,← List.replicate_succ']
  ·have:¬ (n+k+9) % 64=0:=by unfold Zf3 at hk; omega
   omega) (by
  simp only[Ze4];rw[key _ (Nat.le_refl _),if_neg]
  ·unfold Ze3
   rw[Zul hn _ (by simp; omega)];rfl
  ·have:(n+Zf3 n+9) % 64=0:=by unfold Zf3; omega
   omega)
 simpa using this
def blk (y:List Int) (i:Nat):Arr 64:=ZnT 64 (y.drop (64 * i))
noncomputable def hsh (y:List Int):Nat→Arr 8
 | 0=>shaInitial
 | i+1=>Zm2 (hsh y i) (blk y i)
theorem Zs3 {l:List Int}(h:64≤l.length):(zA 64).over l=ZnT 64 l:=by
 unfold Arr.over ZnT;rw[dif_pos h];have hz:=(zA 64).hl;have e:(zA 64).l.drop (min l.length 64)=[]:=List.drop_eq_nil_of_le (by omega);simp only[e,List.append_nil]
def byt (h:Arr 8) (k:Nat):Int:=IntKind.u8.wrap ((h.at (k / 4)).fdiv (2 ^ (24-(k % 4) * 8)))
def Zkx (h:Arr 8):Nat→Arr 32
 | 0=>zA 32
 | k+1=>(Zkx h k).put k (byt h k)
theorem Zvx (h:Arr 8):Zfl h=some (Zkx h 32):=by
 unfold Zfl;refine ZG (step:=ZgJ h) (fun k=>((k:Int),Zkx h k)) 32 (x:=some (Zkx h 32)) (fun k hk=>?_) ?_
 ·simp only[ZgJ]
  have e4:(k:Int).tmod 4=((k % 4:Nat):Int):=tm;have d4:(k:Int).tdiv 4=((k / 4:Nat):Int):=rfl;rw[if_pos (by omega),e4,d4,wi (((k / 4:Nat):Int)) (by omega),wi (((k % 4:Nat):Int) * 8) (by omega),wi (24-((k % 4:Nat):Int) * 8) (by omega),YS (by omega),Zj (by omega),YS hk,Zu hk (by omega)];have e:min (24-((k % 4:Nat):Int) * 8).toNat 32=24-(k % 4) * 8:=by omega
  rw[e];rfl
 ·simp only[ZgJ]
  rw[if_neg (by omega)];rfl
theorem Zvy (h:Arr 8):ZgX h=some (Zkx h 32):=by
 unfold ZgX;refine ZG (step:=Ze5 h) (fun i=>((i:Int),Zkx h (4 * i))) 8 (x:=some (Zkx h 32)) (fun i hi=>?_) ?_
 ·simp only[Ze5]
  rw[if_pos (by omega),wi (4 * (i:Int)) (by omega),wi (4 * (i:Int)+1) (by omega),wi (4 * (i:Int)+2) (by omega),wi (4 * (i:Int)+3) (by omega),YS hi,Za0 (i:=4 * i) (by omega) (by omega),Za0 (i:=4 * i+1) (by omega) (by omega),Za0 (i:=4 * i+2) (by omega) (by omega),Za0 (i:=4 * i+3) (by omega) (by omega),Zu hi (by omega)]
  have b0:byt h (4 * i)=IntKind.u8.wrap ((h.at i).fdiv 16777216):=by
   unfold byt;rw[show 4 * i / 4=i by omega,show 4 * i % 4=0 by omega];rfl
  have b1:byt h (4 * i+1)=IntKind.u8.wrap ((h.at i).fdiv 65536):=by
   unfold byt;rw[show(4 * i+1) / 4=i by omega,show(4 * i+1) % 4=1 by omega];rfl
  have b2:byt h (4 * i+2)=IntKind.u8.wrap ((h.at i).fdiv 256):=by
   unfold byt;rw[show(4 * i+2) / 4=i by omega,show(4 * i+2) % 4=2 by omega];rfl
  have b3:byt h (4 * i+3)=IntKind.u8.wrap (h.at i):=by
   unfold byt;rw[show(4 * i+3) / 4=i by omega,show(4 * i+3) % 4=3 by omega];show IntKind.u8.wrap ((h.at i).fdiv 1)=_
   rw[Int.fdiv_one]
  rw[show 4 * (i+1)=4 * i+3+1 by omega];simp only[Zkx];rw[b0,b1,b2,b3]
 ·simp only[Ze5]
  rw[if_neg (by omega)];rfl
noncomputable def ZaJ (a:List Int):Arr 32:=Zkx (hsh (a++Zdh a.length) ((a.length+(Zdh a.length).length) / 64)) 32
theorem ZoC (n:Nat):(n+(Zdh n).length) % 64=0:=by
 rw[Zm3];unfold Zf3;omega
theorem Zvz {a b:List Int}(ha:a.length≤1000000000) (hb:b.length≤1000000000):Zid [a,b]=some (a++b):=by
 unfold Zid
 rw[ZU (s' := (1,a)) (by
  simp only[ZgH];rw[if_pos (by simp),show(0:Int)=((0:Nat):Int) from rfl,Zi (by simp),Zj (by simp; omega)];simp[wi]),ZU (s' := (2,a++b)) (by
  simp only[ZgH];rw[if_pos (by simp),show(1:Int)=((1:Nat):Int) from rfl,Zi (by simp),Zj (by simp; omega)]
  simp[wi])]
 refine YU ?_;simp only[ZgH];rw[if_neg (by simp)];rfl
theorem ZqY {a:List Int}(h:a.length≤100000000):Zhc a=some (ZaJ a):=by
 have hp:=Zm3 a.length;have hl:=Zmq a.length;have ht:=ZoC a.length;unfold Zhc;rw[wu _ (by omega),Zvv (by omega),Za,Zvz (by omega) (by omega),Za];have hlen:(a++Zdh a.length).length=a.length+(Zdh a.length).length:=by simp
 have hd:((a++Zdh a.length).length:Int).tdiv 64=(((a.length+(Zdh a.length).length) / 64:Nat):Int):=by rw[hlen]; rfl
 refine ZG (step:=ZgK (a++Zdh a.length)) (fun i=>((i:Int),hsh (a++Zdh a.length) i)) ((a.length+(Zdh a.length).length) / 64) (x:=some (ZaJ a)) (fun i hi=>?_) ?_
 ·simp only[ZgK]
  rw[hd,wi (((a.length+(Zdh a.length).length) / 64:Nat):Int) (by omega),if_pos (by omega),wi (64 * (i:Int)) (by omega),Zj (by omega),Zj (by omega),show(64 * (i:Int)).toNat=64 * i by omega,Zvu,Za,Zu hi (by omega)];rfl
 ·simp only[ZgK]
  rw[hd,wi (((a.length+(Zdh a.length).length) / 64:Nat):Int) (by omega),if_neg (by omega),Zvx];rfl
theorem Zhu {a:List Int}(h:a.length≤100000000):Xa a=some (ZaJ a):=by
 have hp:=Zm3 a.length;have hl:=Zmq a.length;have ht:=ZoC a.length;unfold Xa;rw[Zj (by omega),wu _ (by omega),Zvw (by omega),Za,Zj (by omega),inits,Za];have hlen:(a++Zdh a.length).length=a.length+(Zdh a.length).length:=by simp
 refine ZG (step:=Ze6 a (Zdh a.length)) (fun i=>((64 * i:Int),hsh (a++Zdh a.length) i)) ((a.length+(Zdh a.length).length) / 64) (x:=some (ZaJ a)) (fun i hi=>?_) ?_
 ·simp only[Ze6]
  rw[wi (64 * (i:Int)+64) (by omega),if_pos (by omega),Zj (by omega),show(64 * (i:Int)).toNat=64 * i by omega,Zs3 (by rw[List.length_drop]; omega),Zuk,Za,show 64 * (i:Int)+64=64 * ((i+1:Nat):Int) by omega];rfl
 ·simp only[Ze6]
  rw[wi _ (by omega),if_neg (by omega),Zvy];rfl
theorem ZpW {a:List Int}(h:a.length≤100000000):Zcy a=some (ZaJ (ZaJ a).l):=by
 have:=(ZaJ a).hl;unfold Zcy;rw[ZqY h,Za,ZqY (by omega)];rfl
theorem Zn1 {a:List Int}(h:a.length≤100000000):Zbb a=some (ZaJ (ZaJ a).l):=by
 have:=(ZaJ a).hl;unfold Zbb;rw[Zhu h,Za,Zhu (by omega)];rfl
section
set_option maxRecDepth 100000
theorem ZrT {a b:List Int}(h:a.length+b.length≤1000000000):ZR [a,b]=some (a++b):=by
 have e1:Ze (Yl [a,b]) (0,([]:List Int))=some (a++b):=by
  rw[ZU (s' := (1,a)) (by
   simp only[Yl];rw[if_pos (by simp),show(0:Int)=((0:Nat):Int) from rfl,Zi (by simp),Zj (by simp; omega)];simp[wi]),ZU (s' := (2,a++b)) (by
   simp only[Yl];rw[if_pos (by simp),show(1:Int)=((1:Nat):Int) from rfl,Zi (by simp),Zj (by simp; omega)]
   simp[wi])]
  refine YU ?_;simp only[Yl];rw[if_neg (by simp)];rfl
 unfold ZR
 rw[ZU (s' := ((a.length:Int),1)) (by
  simp only[YP];rw[if_pos (by simp),show(0:Int)=((0:Nat):Int) from rfl,Zi (by simp)];simp only[List.getElem_cons_zero];rw[wi (((0:Nat):Int)+a.length) (by omega),if_neg (by omega),YO,wi (((0:Nat):Int)+a.length) (by omega)];simp[wi]),ZU (s' := ((a.length:Int)+b.length,2)) (by
  simp only[YP];rw[if_pos (by simp),show(1:Int)=((1:Nat):Int) from rfl,Zi (by simp)];simp only[List.getElem_cons_succ,List.getElem_cons_zero];rw[wi ((a.length:Int)+b.length) (by omega),if_neg (by omega),YO,wi ((a.length:Int)+b.length) (by omega)]
  simp[wi])]
 refine YU ?_;simp only[YP];rw[if_neg (by simp),ZaI,Zj (by omega),e1]
noncomputable def Zlo (f p:Arr 32):Arr 32:=ZaJ (ZaJ (f.l++p.l)).l
theorem Zl5 (f p:Arr 32):Zbq f p=some (Zlo f p):=by
 have h1:=f.hl; have h2:=p.hl;unfold Zbq;rw[ZrT (by omega),Za,ZpW (by simp[h1,h2])];rfl
def Zkb (f:Tapi_Filter):List Int×Int:=if (f.1<0∨4096<f.1)∨200000<(f.2.length:Int) then([],4) else(ZaH f.1++bytesB f.2,0)
theorem ZvA (f:Tapi_Filter):ZcI f=some (Zkb f):=by
 unfold ZcI Zkb;by_cases h:(f.1<0∨4096<f.1)∨200000<(f.2.length:Int)
 ·rw[if_pos h,if_pos h]
 ·have:=ZaF f.1
  rw[if_neg h,if_neg h,wu _ (by omega),ZjH (by omega) (by simp),Za,List.nil_append,ZlY (by omega)];rfl
theorem Zum (f:Tapi_Filter):(Zkb f).1.length≤300000:=by
 unfold Zkb;split
 ·simp
 ·have:=ZaF f.1
  have:=Zjx f.2;simp only[List.length_append];omega
noncomputable def ZfQ (f:Tapi_Filter):Arr 32:=if (Zkb f).2=0 then ZaJ (ZaJ (Zkb f).1).l else zA 32
theorem ZpX (f:Tapi_Filter):Zc5 f=some (ZfQ f):=by
 have:=Zum f;unfold Zc5 ZfQ;rw[ZvA,Za];by_cases h:(Zkb f).2=0
 ·rw[if_neg (by simp[h]),if_pos h,ZpW (by omega)]
  rfl
 ·rw[if_pos h,if_neg h]
theorem Zkn {a b:List (Arr 32)}(h:a.length+b.length≤1000000):Yx [a,b]=some (a++b):=by
 unfold Yx
 rw[ZU (s' := (1,a)) (by
  simp only[Xm];rw[if_pos (by simp),show(0:Int)=((0:Nat):Int) from rfl,Zi (by simp),Zj (by simp; omega)];simp[wi]),ZU (s' := (2,a++b)) (by
  simp only[Xm];rw[if_pos (by simp),show(1:Int)=((1:Nat):Int) from rfl,Zi (by simp),Zj (by simp; omega)]
  simp[wi])]
 refine YU ?_;simp only[Xm];rw[if_neg (by simp)];rfl
theorem Zs4 (p f:Arr 32):Xk p [f]=some [Zlo f p]:=by
 unfold Xk
 rw[ZU (s' := (1,Zlo f p,[Zlo f p])) (by
  simp only[Xc];rw[if_pos (by simp),show(0:Int)=((0:Nat):Int) from rfl,Zi (by simp)];simp only[List.getElem_cons_zero];rw[Zl5,Za,Zj (by simp)]
  simp[wi])]
 refine YU ?_;simp only[Xc];rw[if_neg (by simp)];rfl
theorem Zs5 (x y:Arr 32):Zaa [x,y] [x]=some 1:=by
 have:Ze (Ya [x,y] [x]) 0=some (1:Int):=by
  rw[ZU (s' := (1:Int)) (by
   simp only[Ya]
   simp[idx,wi])]
  refine YU ?_;simp only[Ya];simp
 unfold Zaa ZS;rw[this];rfl
theorem Zs6 (x y:Arr 32):Z2 ([],[]) [x] [y]=some (([x],[Zlo y (zA 32)]),0):=by
 unfold Z2;rw[show Yz ([],[])=some true by simp[Yz],Za,if_neg (by simp),if_neg (by simp)];rw[if_neg (show ¬ (4096:Int)<IntKind.i64.wrap ((([]:List (Arr 32)).length:Int)+(([x]:List (Arr 32)).length:Int)) from by rw[wi _ (by simp)]; simp)];rw[Zkn (by simp),Za,XZ,if_pos (by simp),Za,Zs4,Za,Zkn (by simp),Za];rfl
theorem sane21:Llaw21_sane=some true:=by
 unfold Llaw21_sane;rw[Zs6,Za,Zs5,Za,if_pos (by simp)];simp only[List.getElem?_cons_zero];rw[Za,Zl5,Za,Za];simp
end
section
set_option maxRecDepth 100000
noncomputable def hdrs:Arr 32→List (Arr 32)→List (Arr 32)
 | _,[]=>[]
 | p,f :: l=>Zlo f p :: hdrs (Zlo f p) l
noncomputable def Ziz (l:List (Arr 32)) (n:Nat):Arr 32:=if n=0 then zA 32 else l.getD (n-1) (zA 32)
theorem Zd2 (p:Arr 32) (l:List (Arr 32)):(hdrs p l).length=l.length:=by
 induction l generalizing p with
 | nil=>rfl
 | cons f l ih=>simp[hdrs,ih]
theorem ZmH (p:Arr 32) (l m:List (Arr 32)):hdrs p (l++m)=hdrs p l++hdrs ((hdrs p l).getLastD p) m:=by
 induction l generalizing p with
 | nil=>simp[hdrs]
 | cons f l ih =>
  simp only[List.cons_append,hdrs,ih]
  congr 2
  have:∀ (m:List (Arr 32)) (a b:Arr 32),(a :: m).getLastD b=m.getLastD a:=by
   intro m a b;cases m <;> rfl
  rw[this]
theorem Zs7 (p:Arr 32) (l:List (Arr 32)) (n:Nat):(hdrs p l).take n=hdrs p (l.take n):=by
 induction n generalizing p l with
 | zero=>simp[hdrs]
 | succ n ih=>cases l <;> simp[hdrs,ih]
theorem Zun (p:Arr 32) (l:List (Arr 32)) (h:l.length≤1000000):Xk p l=some (hdrs p l):=by
 unfold Xk
 have:=ZG (step:=Xc l) (fun i=>((i:Int),(hdrs p (l.take i)).getLastD p,hdrs p (l.take i))) l.length (x:=some (hdrs p l)) (fun i hi=>by
  simp only[Xc];have hl:=Zd2 p (l.take i);have ht:=List.length_take_le i l;rw[if_pos (by omega),Zi hi,Zl5,Za,Zj (by omega),show List.take (i+1) l=List.take i l++[l[i]] from by simp,ZmH];simp only[hdrs,List.getLastD_concat];rw[wi _ (by omega)];rfl) (by
  simp only[Xc];rw[if_neg (by omega),List.take_length]
  rfl)
 simpa[hdrs] using this
theorem Zwo (c:Tapi_FilterChain) (n:Nat) (h:n≤c.2.length) (hn:c.2.length≤1000000):XZ c (n:Int)=some (Ziz c.2 n):=by
 unfold XZ Ziz;by_cases h0:n=0
 ·rw[if_pos (by omega),if_pos h0]
 ·rw[if_neg (by omega),if_neg h0,wi _ (by omega),show(n:Int)-1=((n-1:Nat):Int) from by omega,Zi (by omega),List.getD_eq_getElem?_getD,List.getElem?_eq_getElem (by omega)]
  rfl
theorem Zm4 {c:Tapi_FilterChain}(h:c.1.length=c.2.length) (hn:c.1.length≤4096):Yz c=some true:=by
 unfold Yz;rw[decide_eq_true (by omega),decide_eq_true (by omega)];rfl
theorem Znx {c:Tapi_FilterChain}{b f:List (Arr 32)}(h:c.1.length=c.2.length) (hl:b.length=f.length) (hn:c.1.length+b.length≤4096):Z2 c b f=some ((c.1++b,c.2++hdrs (Ziz c.2 c.2.length) f),0):=by
 unfold Z2;rw[Zm4 h (by omega),Za,if_neg (by simp),if_neg (by omega),if_neg (by rw[wi _ (by omega)]; omega),Zkn (by omega),Za,Zwo c _ (by omega) (by omega),Za,Zun _ _ (by omega),Za,Zkn (by rw[Zd2]; omega),Za]
end
section
set_option maxRecDepth 100000
theorem ZrU (a b:List (Arr 32)) (ha:a.length≤1000000) (hb:b.length≤1000000):Tot (ZS a b) fun r=>(r = -1∧a=b)∨∃ n:Nat,r=n∧n≤a.length∧n≤b.length∧a.take n=b.take n:=by
 unfold ZS
 have hm:(if (a.length:Int)<(b.length:Int) then(b.length:Int) else(a.length:Int))=((max a.length b.length:Nat):Int):=by
  by_cases h:(a.length:Int)<b.length
  ·rw[if_pos h,Nat.max_eq_right (by omega)]
  ·rw[if_neg h,Nat.max_eq_left (by omega)]
 refine ZI (I:=fun(n:Nat) (s:Int)=>∃ i:Nat,s=i∧i+n=max a.length b.length+1∧i≤a.length∧i≤b.length∧a.take i=b.take i) (n:=max a.length b.length+1) ?_ ⟨0,rfl,by omega,by omega,by omega,by simp⟩;rintro n _ ⟨i,rfl,hi,h1,h2,h3⟩
 simp only[Ya,hm];by_cases hlt:i<max a.length b.length
 ·rw[if_pos (by omega)]
  by_cases ho:(a.length:Int)≤i∨(b.length:Int)≤i
  ·rw[if_pos ho,Za,if_pos (.inl ho)]
   exact⟨_,rfl,.inr ⟨i,rfl,h1,h2,h3⟩⟩
  ·rw[if_neg ho]
   have hia:i<a.length:=by omega
   have hib:i<b.length:=by omega
   rw[Zi hia,Zi hib,Za];by_cases he:a[i]=b[i]
   ·rw[if_neg (by simp only[he]; simpa using ho)]
    refine⟨_,rfl,n-1,by omega,i+1,?_,by omega,by omega,by omega,?_⟩
    ·rw[wi _ (by omega)]
     omega
    ·rw[List.take_succ_eq_append_getElem hia,List.take_succ_eq_append_getElem hib,h3,he]
   ·rw[if_pos (.inr (by simp[he]))]
    exact⟨_,rfl,.inr ⟨i,rfl,h1,h2,h3⟩⟩
 ·rw[if_neg (by omega)]
  refine⟨_,rfl,.inl ⟨rfl,?_⟩⟩;have e1:i=a.length:=by omega
  have e2:i=b.length:=by omega
  rwa[e1,List.take_length,← e1,e2,List.take_length] at h3
theorem Zuo (l:List (Arr 32)):Ziz l l.length=l.getLastD (zA 32):=by
 unfold Ziz;cases l with
 | nil=>rfl
 | cons x l=>rw[if_neg (by simp)]; simp[List.getD_eq_getElem?_getD,List.getLastD,List.getLast_eq_getElem]
theorem ZrV (l:List (Arr 32)) (n:Nat) (h:n≤l.length):(hdrs (zA 32) l).take n++hdrs (Ziz ((hdrs (zA 32) l).take n) n) (l.drop n)=hdrs (zA 32) l:=by
 have hl:((hdrs (zA 32) l).take n).length=n:=by rw[List.length_take,Zd2]; omega
 have e:Ziz ((hdrs (zA 32) l).take n) n=((hdrs (zA 32) l).take n).getLastD (zA 32):=by
  have:=Zuo ((hdrs (zA 32) l).take n)
  rwa[hl] at this
 rw[e,Zs7,← ZmH,List.take_append_drop]
end
section
open Go.Sort
theorem Zmr (x y:Int):Y5 x y=some (ltInt x y):=by simp[Y5,XV,ltInt]
theorem gA {d:Array Int}{i:Nat}(h:i<d.size):d.toList[i]? = some d[i]! := by
 rw[getElem!_pos d i h];simp[h]
theorem gB {β:Type}{d:Array Int}{i:Nat}{f:Int→Option β}(h:i<d.size):(d.toList[i]?).bind f=f d[i]! := by rw[gA h]; rfl
theorem iB {β:Type}{d:Array Int}{i:Nat}{f:Nat→Option β}(h:i<d.size):(inA d.toList.length (i:Int)).bind f=f i:=YS (by simpa using h)
theorem iB1 {β:Type}{d:Array Int}{i j:Nat}{x:Int}{f:Nat→Option β}(h:i<d.size):(inA (d.toList.set j x).length (i:Int)).bind f=f i:=YS (by simpa using h)
theorem swpL (d:Array Int) (i j:Nat):(d.toList.set i d[j]!).set j d[i]! = (swp d i j).toList:=by simp[swp]
theorem sB {β:Type}(x:Bool) (f:Bool→Option β):(some x).bind f=f x:=rfl
theorem wI (n:Nat) (h:n<9223372036854775808):IntKind.i64.wrap (n:Int)=(n:Int):=wi _ (by omega)
theorem wS {i:Nat}(h:i<9223372036854775807):IntKind.i64.wrap ((i:Int)+1)=((i+1:Nat):Int):=by rw[wi _ (by omega)]; omega
theorem wP {i:Nat}(h:i<9223372036854775807):IntKind.i64.wrap (((i+1:Nat):Int)-1)=(i:Int):=by rw[wi _ (by omega)]; omega
theorem Zg4 (lt:Int→Int→Bool) (a:Nat):∀ (j:Nat) (d:Array Int),(insInner lt a j d).size=d.size
 | 0,d=>by rw[insInner]
 | j+1,d=>by
  rw[insInner];split
  ·rw[Zg4 lt a j,size_swp]
  ·rfl
theorem ZoD (a:Nat) (i:Int):∀ (j:Nat) (d:Array Int),j<d.size→d.size<4611686018427387904→Ze (ZJ (a:Int) i) ((j:Int),d.toList)=ZP i (insInner ltInt a j d).toList
 | 0,d,hj,hs=>by
  rw[insInner];refine YU ?_;have h:¬ ((a:Int)<((0:Nat):Int)):=by omega
  simp only[ZJ,if_neg h,sB,h,false_and,if_false]
 | j+1,d,hj,hs=>by
  have hj':j<d.size:=by omega
  rw[insInner];by_cases h:a<j+1
  ·have hc:(a:Int)<((j+1:Nat):Int):=by omega
   by_cases hl:ltInt d[j+1]! d[j]! = true
   ·rw[ZU (s' := ((j:Int),(swp d (j+1) j).toList)),ZoD a i j _ (by rw[size_swp]; exact hj') (by rw[size_swp]; exact hs),if_pos (by simp[h,hl])]
    simp only[ZJ,if_pos hc,hc,true_and,wP (show j<9223372036854775807 by omega),iB hj,iB hj',gB hj,gB hj',Zmr,sB,hl,if_true,iB1 hj',swpL]
   ·rw[if_neg (by simp[hl])]
    refine YU ?_;simp only[ZJ,if_pos hc,hc,true_and,wP (show j<9223372036854775807 by omega),iB hj,iB hj',gB hj,gB hj',Zmr,sB,(by simpa using hl:ltInt d[j+1]! d[j]! = false),if_true,if_false,Bool.false_eq_true]
  ·rw[if_neg (by simp[h])]
   refine YU ?_;have hc:¬ (a:Int)<((j+1:Nat):Int):=by omega
   simp only[ZJ,if_neg hc,sB,hc,false_and,if_false]
theorem Zs8 (a b:Nat) (l0:List Int):∀ (n i:Nat) (d:Array Int),b-i=n→b≤d.size→d.size<4611686018427387904→d.size=l0.length→Ze (Z3 (b:Int) (a:Int) l0) ((i:Int),d.toList)=some (insOuter ltInt a b i d).toList:=by
 intro n;induction n with
 | zero =>
  intro i d h hb hs h0;rw[insOuter,if_neg (by omega)];refine ZbK ?_;simp only[Z3,if_neg (show ¬ (i:Int)<(b:Int) by omega)];rw[Zj (by simpa using h0)]
 | succ n ih =>
  intro i d h hb hs h0;rw[insOuter,if_pos (by omega),← ih (i+1) _ (by omega) (by rw[Zg4]; exact hb) (by rw[Zg4]; exact hs) (by rw[Zg4]; exact h0)];refine ZU ?_;simp only[Z3,if_pos (show(i:Int)<(b:Int) by omega)];rw[ZoD a _ i d (by omega) hs,ZP,wS (by omega)]
theorem Zwp (d:Array Int) (a b:Nat) (hb:b≤d.size) (ha:a≤b) (hs:d.size<4611686018427387904):Zt d.toList (a:Int) (b:Int)=some (insertionSort ltInt d a b).toList:=by
 rw[Zt,wS (by omega),Zs8 a b d.toList _ (a+1) d rfl hb hs (by simp)];rfl
end
end Go.Lc
