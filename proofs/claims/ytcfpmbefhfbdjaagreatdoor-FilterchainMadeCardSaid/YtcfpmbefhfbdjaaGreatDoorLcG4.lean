import Derived.Test.YtcfpmbefhfbdjaaGreatDoorLcG3
import Derived.Test.YtcfpmbefhfbdjaaGreatDoorLcG1
import Derived.KernelRfl
import Derived.Test.YtcfpmbefhfbdjaaGreatDoorLcG2
import Derived.Sort.AssemblyPlain
namespace Go.Lc
open Go.RowKit
open Go.Av
set_option linter.unusedVariables false
set_option linter.unusedSimpArgs false
theorem Zoj (bad:Nat→Prop):∀ n,(∃ i,i<n∧bad i)→∃ m,m<n∧bad m∧∀ j,j<m→¬ bad j:=by
 classical
 intro n;induction n with
 | zero=>rintro⟨i,h,_⟩; omega
 | succ n ih =>
  intro h;by_cases hx:∃ i,i<n∧bad i
  ·obtain⟨m,h1,h2,h3⟩:=ih hx
   exact⟨m,by omega,h2,h3⟩
  ·obtain⟨i,hi,hb⟩:=h
   have:i=n:=by
    rcases Nat.lt_or_ge i n with h' | h'
    ·exact absurd ⟨i,h',hb⟩ hx
    ·omega
   subst this;exact⟨i,by omega,hb,fun j hj hb=>hx ⟨j,hj,hb⟩⟩
theorem Zpy {σ ρ:Type}{step:σ→Option (σ ⊕ ρ)}(enc:Nat→σ) (n:Nat) (bad:Nat→Prop) (rb x:Option ρ) (h:∀ i,i<n→¬ bad i→step (enc i)=some (.inl (enc (i+1)))) (hb:∀ i,i<n→bad i→step (enc i)=rb.map .inr) (he:step (enc n)=x.map .inr):Zd step (enc 0)=(by classical exact if ∃ i,i<n∧bad i then rb else x):=by
 classical
 by_cases hx:∃ i,i<n∧bad i
 ·rw[if_pos hx]
  obtain⟨m,hm,hbm,hmin⟩:=Zoj bad n hx;exact ZG enc m (fun i hi=>h i (by omega) (hmin i hi)) (hb m hm hbm)
 ·rw[if_neg hx]
  exact ZG enc n (fun i hi=>h i hi fun hbi=>hx ⟨i,hi,hbi⟩) he
theorem ZsI {σ ρ α:Type}{step:σ→Option (σ ⊕ ρ)}(enc:Nat→σ) (l:List α) (bad:α→Prop) (rb x:Option ρ) (h:∀ i (hi:i<l.length),¬ bad l[i]→step (enc i)=some (.inl (enc (i+1)))) (hb:∀ i (hi:i<l.length),bad l[i]→step (enc i)=rb.map .inr) (he:step (enc l.length)=x.map .inr):Zd step (enc 0)=(by classical exact if ∃ a∈l,bad a then rb else x):=by
 classical
 rw[Zpy enc l.length (fun i=>∃ hi:i<l.length,bad l[i]) rb x (fun i hi hn=>h i hi fun hb=>hn ⟨hi,hb⟩) (fun i hi ⟨_,hbi⟩=>hb i hi hbi) he]
 have:(∃ i,i<l.length∧∃ hi:i<l.length,bad l[i])↔∃ a∈l,bad a:=by
  constructor
  ·rintro⟨i,_,hi,hb⟩
   exact⟨_,List.getElem_mem hi,hb⟩
  ·rintro⟨a,ha,hb⟩
   obtain⟨i,hi,rfl⟩:=List.getElem_of_mem ha;exact⟨i,hi,hi,hb⟩
 simp only[this]
theorem ZdS {σ ρ α:Type}{step:σ→Option (σ ⊕ ρ)}(enc:Nat→σ) (l:List α) (bad:α→Prop) (rb x:Option ρ) [inst:Decidable (∃ a∈l,bad a)] (h:∀ i (hi:i<l.length),¬ bad l[i]→step (enc i)=some (.inl (enc (i+1)))) (hb:∀ i (hi:i<l.length),bad l[i]→step (enc i)=rb.map .inr) (he:step (enc l.length)=x.map .inr){s:σ}(hs:s=enc 0):Zd step s=if ∃ a∈l,bad a then rb else x:=by
 subst hs;rw[ZsI enc l bad rb x h hb he];split
 ·rfl
 ·rfl
theorem ZaQ {α β:Type}{l:List α}(f:α→List β){i:Nat}(h:i<l.length):(l.take (i+1)).flatMap f=(l.take i).flatMap f++f l[i]:=by
 rw[List.take_succ_eq_append_getElem h,List.flatMap_append];simp
theorem ZdF {α β:Type}(l:List α) (f:α→List β) (i:Nat):((l.take i).flatMap f).length≤(l.flatMap f).length:=by
 conv=>rhs; rw[← List.take_append_drop i l]
 rw[List.flatMap_append,List.length_append];omega
def Yd (n:Int) (k:Nat):List Int:=(List.range k).map fun i=>IntKind.u8.wrap (n.fdiv (2 ^ (8 * i)))
@[simp] theorem ZdT (n:Int) (k:Nat):(Yd n k).length=k:=by simp[Yd]
theorem ZqB {i:Nat}(h:i<8):min (IntKind.i64.wrap (8 * (i:Int))).toNat 64=8 * i:=by
 rw[wi _ (by omega)];omega
theorem ZlO (n:Int) (k:Nat) (hk:k≤8):Xd n k=some (Yd n k):=by
 unfold Xd;rw[Zj (by omega)]
 have:=ZG (step:=ZcL k n) (fun i=>((i:Int),((List.range i).map fun i=>IntKind.u8.wrap (n.fdiv (2 ^ (8 * i))))++List.replicate (k-i) 0)) k (x:=some (Yd n k)) (fun i hi=>by
  simp only[ZcL];rw[if_pos (by omega),Zj (by rw[wi _ (by omega)]; omega),Zpv _ _ (by omega),YM hi,ZqB (by omega),Zoh (fun i=>IntKind.u8.wrap (n.fdiv (2 ^ (8 * i)))) 0 hi,Zu hi (by omega)]) (by
  simp only[ZcL];rw[if_neg (by omega)]
  simp[ZeA,Yd])
 simpa using this
theorem Zhn (n:Int) (k:Nat) (hk:k≤8):Ya n k=some (Yd n k):=by
 unfold Ya;rw[Zj (by omega)]
 have:=ZG (step:=ZcM k n) (fun i=>((i:Int),((List.range i).map fun i=>IntKind.u8.wrap (n.fdiv (2 ^ (8 * i))))++List.replicate (k-i) 0)) k (x:=some (Yd n k)) (fun i hi=>by
  simp only[ZcM];rw[if_pos (by simp; omega),Zj (by rw[wi _ (by omega)]; omega),Zpv _ _ (by omega),YM hi,ZqB (by omega),Zoh (fun i=>IntKind.u8.wrap (n.fdiv (2 ^ (8 * i)))) 0 hi,Zu hi (by omega)]) (by
  simp only[ZcM];rw[if_neg (by simp)]
  simp[ZeC,Yd])
 simpa using this
theorem ZdG {a b:List Int}(h:a.length+b.length≤140737488355328):Yy a b=some (a++b):=by
 unfold Yy;rw[wi _ (by omega),Zj (by omega),Zj (by omega),Zj (by omega)]
theorem Zav {a b:List Int}(h:a.length+b.length≤140737488355328):Z9 a b=some (a++b):=by
 unfold Z9;rw[wi _ (by omega),Zj (by omega),Zj (by omega),Zj (by omega)]
section
variable {b:List Int}{n:Int}
theorem ZhT (h:b.length≤140737488355000):Z5 b n=some (b++Yd (IntKind.u64.wrap n) 4):=by
 unfold Z5;have this:Xd (IntKind.u64.wrap n) 4=some (Yd (IntKind.u64.wrap n) 4):=ZlO _ 4 (by omega);rw[this,Za,ZdG (by simp; omega)];rfl
theorem ZsJ (h:b.length≤140737488355000):Zae b n=some (b++Yd n 8):=by
 unfold Zae;have this:Xd n 8=some (Yd n 8):=ZlO _ 8 (by omega);rw[this,Za,ZdG (by simp; omega)];rfl
theorem Zv8 (h:b.length≤140737488355000):Za8 b n=some (b++Yd (IntKind.u64.wrap n) 2):=by
 unfold Za8;have this:Xd (IntKind.u64.wrap n) 2=some (Yd (IntKind.u64.wrap n) 2):=ZlO _ 2 (by omega);rw[this,Za,ZdG (by simp; omega)];rfl
theorem Zds (h:b.length≤140737488355000):ZW b n=some (b++Yd (IntKind.u64.wrap n) 4):=by
 unfold ZW;have this:Ya (IntKind.u64.wrap n) 4=some (Yd (IntKind.u64.wrap n) 4):=Zhn _ 4 (by omega);rw[this,Za,Zav (by simp; omega)];rfl
theorem Zvc (h:b.length≤140737488355000):Za9 b n=some (b++Yd n 8):=by
 unfold Za9;have this:Ya n 8=some (Yd n 8):=Zhn _ 8 (by omega);rw[this,Za,Zav (by simp; omega)];rfl
def Zaz (n:Int):List Int:=if n<253 then Yd n 1 else if n<65536 then 253 :: Yd n 2 else if n<4294967296 then 254 :: Yd n 4 else 255 :: Yd n 8
theorem Zaw (n:Int):(Zaz n).length≤9:=by
 unfold Zaz;split
 ·simp
 ·split
  ·simp
  ·split <;> simp
theorem ZjC (h0:0≤n∧n≤18446744073709551615) (h:b.length≤140737488354900):Yq b n=some (b++Zaz n):=by
 unfold Yq Zaz;split
 ·rw[ZdG (by simp; omega)]
  simp[Yd]
 ·split
  ·rw[ZdG (by simp; omega),Za,Zv8 (by simp; omega),IntWalk.u16_in _ (by omega),wu _ (by omega)]
   simp
  ·split
   ·rw[ZdG (by simp; omega),Za,ZhT (by simp; omega),IntWalk.u32_in _ (by omega),wu _ (by omega)]
    simp
   ·rw[ZdG (by simp; omega),Za,ZsJ (by simp; omega)]
    simp
theorem Zj1 (h0:0≤n∧n≤18446744073709551615) (h:b.length≤140737488354900):YG b n=some (b++Zaz n):=by
 have l1:Ya n 1=some (Yd n 1):=Zhn n 1 (by omega);have l2:Ya n 2=some (Yd n 2):=Zhn n 2 (by omega);have l4:Ya n 4=some (Yd n 4):=Zhn n 4 (by omega);have l8:Ya n 8=some (Yd n 8):=Zhn n 8 (by omega);unfold YG Zaz;split
 ·rw[l1,Za,Zav (by simp; omega)]
  rfl
 ·split
  ·rw[l2,Za,Zav (by simp),Za,Zav (by simp; omega)]
   rfl
  ·split
   ·rw[l4,Za,Zav (by simp),Za,Zav (by simp; omega)]
    rfl
   ·rw[l8,Za,Zav (by simp),Za,Zav (by simp; omega)]
    rfl
end
def bytesB (s:List Int):List Int:=Zaz s.length++s
theorem Zjs (s:List Int):(bytesB s).length≤9+s.length:=by
 have:=Zaw s.length;simp[bytesB]
 omega
theorem Zfs {n:Nat}(h:n≤140737488355328):IntKind.u64.wrap (n:Int)=n:=wu _ (by omega)
theorem ZlP {b s:List Int}(h:b.length+s.length≤140737488354900):Y9 b s=some (b++bytesB s):=by
 unfold Y9;have:=Zaw s.length;rw[Zfs (by omega),ZjC (by omega) (by omega),Za,ZdG (by simp; omega)];simp[bytesB]
theorem Zok {b s:List Int}(h:b.length+s.length≤140737488354900):XB b s=some (b++bytesB s):=by
 unfold XB;have:=Zaw s.length;rw[Zfs (by omega),Zj1 (by omega) (by omega),Za,Zav (by simp; omega)];simp[bytesB]
theorem ZnL {b:List Int}{a:Arr 32}(h:b.length≤140737488355000):Xj b a=some (b++a.l):=by
 unfold Xj;rw[ZdG (by rw[a.hl]; omega)];rfl
theorem Zim {b:List Int}{a:Arr 32}(h:b.length≤140737488355000):Yr b a=some (b++a.l):=by
 unfold Yr;rw[Zav (by rw[a.hl]; omega)];rfl
def ZiN (o:Tapi_OutPoint):List Int:=o.1.l++Yd (IntKind.u64.wrap o.2) 4
@[simp] theorem Zla (o:Tapi_OutPoint):(ZiN o).length=36:=by simp[ZiN,o.1.hl]
theorem Zpz (o:Tapi_OutPoint):Zep o=some (ZiN o):=by
 unfold Zep;rw[ZnL (by simp),Za,ZhT (by simp[o.1.hl])];rfl
theorem Zol (o:Tapi_OutPoint):ZcN o=some (ZiN o):=by
 unfold ZcN;rw[Zim (by simp),Za,Zds (by simp[o.1.hl])];rfl
def inB (x:Tapi_Input):List Int:=ZiN x.1++Yd (IntKind.u64.wrap x.2.1) 4
@[simp] theorem Zvd (x:Tapi_Input):(inB x).length=40:=by simp[inB]
def ZfT (o:Tapi_Output):List Int:=Yd (IntKind.u64.wrap o.1) 8++bytesB o.2
def ZlQ (x:Tapi_Input):List Int:=Zaz x.2.2.length++x.2.2.flatMap bytesB
def Zke (t:Tapi_Tx):List Int:=Yd (IntKind.u64.wrap t.1) 4++Zaz t.2.1.length
def Y8 (t:Tapi_Tx) (w:Bool):List Int:=Zke t++t.2.1.flatMap inB++Zaz t.2.2.1.length++t.2.2.1.flatMap ZfT++Yd (IntKind.u64.wrap t.2.2.2) 4++(if w then t.2.1.flatMap ZlQ else[])
def Zao (t:Tapi_Tx):Nat:=100+(t.2.1.map fun x=>60+(x.2.2.map fun s=>20+s.length).sum).sum+(t.2.2.1.map fun o=>60+o.2.length).sum
theorem ZkH {α β:Type}(f:α→List β) (g:α→Nat) (h:∀ a,(f a).length≤g a) (l:List α):(l.flatMap f).length≤(l.map g).sum:=by
 induction l with
 | nil=>simp
 | cons a l ih =>
  simp only[List.flatMap_cons,List.length_append,List.map_cons,List.sum_cons];have:=h a;omega
theorem Zlb {α:Type}(g:α→Nat){l:List α}{a:α}(h:a∈l):g a≤(l.map g).sum:=by
 induction l with
 | nil=>simp at h
 | cons b l ih =>
  simp only[List.map_cons,List.sum_cons];rcases List.mem_cons.1 h with rfl | h
  ·omega
  ·have:=ih h
   omega
theorem Zj2 {α:Type}(g:α→Nat) (c:Nat) (h:∀ a,c≤g a) (l:List α):c * l.length≤(l.map g).sum:=by
 induction l with
 | nil=>simp
 | cons a l ih =>
  have:=h a;simp only[List.map_cons,List.sum_cons,List.length_cons,Nat.mul_add];omega
theorem Zve (x:Tapi_Input):(ZlQ x).length≤9+(x.2.2.map fun s=>20+s.length).sum:=by
 have h1:=Zaw x.2.2.length;have h2:=ZkH bytesB (fun s=>20+s.length) (fun s=>by have:=Zjs s; omega) x.2.2;simp only[ZlQ,List.length_append];omega
theorem Zvf (o:Tapi_Output):(ZfT o).length≤20+o.2.length:=by
 have:=Zjs o.2;simp only[ZfT,List.length_append,ZdT];omega
section
variable {t:Tapi_Tx}{w:Bool}
def ZfU (t:Tapi_Tx) (i:Nat):List Int:=Zke t++(t.2.1.take i).flatMap inB
def ZfV (t:Tapi_Tx) (i:Nat):List Int:=Zke t++t.2.1.flatMap inB++Zaz t.2.2.1.length++(t.2.2.1.take i).flatMap ZfT
def ZeM (t:Tapi_Tx) (i:Nat):List Int:=Zke t++t.2.1.flatMap inB++Zaz t.2.2.1.length++t.2.2.1.flatMap ZfT++Yd (IntKind.u64.wrap t.2.2.2) 4++(t.2.1.take i).flatMap ZlQ
theorem ZnM (t:Tapi_Tx):(t.2.1.flatMap inB).length+(t.2.1.flatMap ZlQ).length≤(t.2.1.map fun x=>60+(x.2.2.map fun s=>20+s.length).sum).sum:=by
 induction t.2.1 with
 | nil=>simp
 | cons x l ih =>
  have:=Zve x;simp only[List.flatMap_cons,List.length_append,List.map_cons,List.sum_cons,Zvd];omega
theorem ZpA (t:Tapi_Tx):(t.2.2.1.flatMap ZfT).length≤(t.2.2.1.map fun o=>60+o.2.length).sum:=ZkH ZfT _ (fun o=>by have:=Zvf o; omega) _
theorem ZlR (t:Tapi_Tx):(Zke t).length≤13:=by
 have:=Zaw t.2.1.length;simp only[Zke,List.length_append,ZdT];omega
theorem ZnN (i:Nat):(ZfU t i).length+50≤Zao t:=by
 have h1:=ZlR t;have h2:=ZdF t.2.1 inB i;have h3:=ZnM t;simp only[ZfU,Zao,List.length_append];omega
theorem ZkI (i:Nat):(ZfV t i).length+50≤Zao t:=by
 have h1:=ZlR t;have h2:=ZdF t.2.2.1 ZfT i;have h3:=ZnM t;have h4:=ZpA t;have h5:=Zaw t.2.2.1.length;simp only[ZfV,Zao,List.length_append];omega
theorem ZnO (i:Nat):(ZeM t i).length+50≤Zao t:=by
 have h1:=ZlR t;have h2:=ZdF t.2.1 ZlQ i;have h3:=ZnM t;have h4:=ZpA t;have h5:=Zaw t.2.2.1.length;simp only[ZeM,Zao,List.length_append,ZdT];omega
theorem Zin (t:Tapi_Tx):t.2.1.length≤Zao t:=by
 have:=Zj2 (fun x:Tapi_Input=>60+(x.2.2.map fun s=>20+s.length).sum) 60 (fun x=>by omega) t.2.1;unfold Zao;omega
theorem Zom (t:Tapi_Tx):t.2.2.1.length≤Zao t:=by
 have:=Zj2 (fun o:Tapi_Output=>60+o.2.length) 60 (fun x=>by omega) t.2.2.1;unfold Zao;omega
theorem ZqC {x:Tapi_Input}(h:x∈t.2.1):60+(x.2.2.map fun s=>20+s.length).sum≤Zao t:=by
 have:=Zlb (fun x:Tapi_Input=>60+(x.2.2.map fun s=>20+s.length).sum) h;unfold Zao;omega
theorem ZpB {o:Tapi_Output}(h:o∈t.2.2.1):60+o.2.length≤Zao t:=by
 have:=Zlb (fun o:Tapi_Output=>60+o.2.length) h;unfold Zao;omega
theorem Zkf {x:Tapi_Input}(h:x∈t.2.1):x.2.2.length≤Zao t:=by
 have h1:=ZqC h;have:=Zj2 (fun s:List Int=>20+s.length) 20 (fun x=>by omega) x.2.2;omega
theorem ZpC {x:Tapi_Input}(h:x∈t.2.1){s:List Int}(hs:s∈x.2.2):20+s.length≤Zao t:=by
 have h1:=ZqC h;have:=Zlb (fun s:List Int=>20+s.length) hs;omega
end
section
variable {t:Tapi_Tx}{w:Bool}
theorem ZlS {i:Nat}(h:i<t.2.1.length):ZeM t (i+1)=ZeM t i++Zaz (t.2.1[i]).2.2.length++(t.2.1[i]).2.2.flatMap bytesB:=by
 simp only[ZeM,ZaQ ZlQ h,ZlQ,List.append_assoc]
theorem ZpD {i:Nat}(h:i<t.2.1.length):(ZeM t i++Zaz (t.2.1[i]).2.2.length).length+((t.2.1[i]).2.2.flatMap bytesB).length+50≤Zao t:=by
 have:=ZnO (t:=t) (i+1);rw[ZlS h] at this;simp only[List.length_append] at this ⊢;omega
theorem ZqD {x:Tapi_Input}{j:Nat}(h:j<x.2.2.length):((x.2.2.take j).flatMap bytesB).length+(bytesB x.2.2[j]).length≤(x.2.2.flatMap bytesB).length:=by
 have:=ZdF x.2.2 bytesB (j+1);rw[ZaQ bytesB h] at this;simpa using this
theorem Zvg (hM:Zao t≤1000000000000){i:Nat}(h:i<t.2.1.length){q:List Int}(hq:q.length+((t.2.1[i]).2.2.flatMap bytesB).length+50≤Zao t) :
  Zd (Zdf t.2.1[i] (i:Int)) (0,q)=some (.inl (((i+1:Nat):Int),q++(t.2.1[i]).2.2.flatMap bytesB)):=by
 have hmem:=List.getElem_mem h;have hwl:=Zkf hmem;have hil:=Zin t;generalize t.2.1[i]=x at hq hmem hwl ⊢
 have:=ZG (step:=Zdf x (i:Int)) (fun j=>((j:Int),q++(x.2.2.take j).flatMap bytesB)) x.2.2.length (x:=some (.inl (((i+1:Nat):Int),q++x.2.2.flatMap bytesB))) (fun j hj=>by
  simp only[Zdf];have h1:=ZqD hj;have h2:=ZpC hmem (List.getElem_mem hj);rw[if_pos (by omega),Zi hj,ZlP (by simp; omega),Za,Zj (by simp only[List.length_append,List.nil_append]; omega),Zu hj (by omega),ZaQ bytesB hj];simp) (by
  simp only[Zdf];rw[if_neg (by omega)]
  simp only[Zb4,List.take_length,Zu h (by omega)])
 simpa using this
theorem Zxe (hM:Zao t≤1000000000000):ZaX t (ZfV t t.2.2.1.length) w=some (Y8 t w):=by
 have hil:=Zin t;have h2:=ZkI (t:=t) t.2.2.1.length;unfold ZaX;rw[ZhT (by simp),Za,Zj (by simp; omega)];have he:ZfV t t.2.2.1.length++([]++Yd (IntKind.u64.wrap t.2.2.2) 4)=ZeM t 0:=by simp[ZfV,ZeM]
 rw[he];cases w with
 | false=>simp[Y8,ZeM]
 | true =>
  rw[if_neg (by simp)]
  have:=ZG (step:=ZeR t) (fun i=>((i:Int),ZeM t i)) t.2.1.length (x:=some (Y8 t true)) (fun i hi=>by
   have h3:=ZpD hi;have h5:=Zkf (List.getElem_mem hi);simp only[ZeR];rw[if_pos (by omega),Zi hi,Zfs (by omega),ZjC (by omega) (by simp),Za,Zj (by simp only[List.length_append,List.nil_append] at h3 ⊢; omega),List.nil_append,Zvg hM hi h3,ZlS hi]) (by
   simp only[ZeR];rw[if_neg (by omega)]
   simp[Zb3,ZeM,Y8])
  simpa using this
theorem Zon {i:Nat}(h:i<t.2.2.1.length):ZfV t (i+1)=ZfV t i++Yd (IntKind.u64.wrap (t.2.2.1[i]).1) 8++bytesB (t.2.2.1[i]).2:=by
 simp only[ZfV,ZaQ ZfT h,ZfT,List.append_assoc]
theorem Zxf (hM:Zao t≤1000000000000):ZaY t (ZfU t t.2.1.length) w=some (Y8 t w):=by
 have hol:=Zom t;have h2:=ZkI (t:=t) 0;have h1:=Zaw t.2.2.1.length;have he:ZfU t t.2.1.length++Zaz t.2.2.1.length=ZfV t 0:=by simp[ZfU,ZfV]
 unfold ZaY;rw[Zfs (by omega),ZjC (by omega) (by simp),Za,List.nil_append,Zj (by rw[← List.length_append,he]; omega),he]
 have:=ZG (step:=ZeS t w) (fun i=>((i:Int),ZfV t i)) t.2.2.1.length (x:=some (Y8 t w)) (fun i hi=>by
  have h3:=ZkI (t:=t) (i+1);have h4:=ZpB (List.getElem_mem hi);rw[Zon hi] at h3 ⊢;simp only[List.length_append,ZdT] at h3;simp only[ZeS];rw[if_pos (by omega),Zi hi,ZsJ (by simp),Za,Zj (by simp; omega),ZlP (by simp; omega),Za,Zj (by simp; omega),Zu hi (by omega)];simp) (by
  simp only[ZeS]
  rw[if_neg (by omega),Zxe hM])
 simpa using this
theorem Zoo {i:Nat}(h:i<t.2.1.length):ZfU t (i+1)=ZfU t i++ZiN (t.2.1[i]).1++Yd (IntKind.u64.wrap (t.2.1[i]).2.1) 4:=by
 simp only[ZfU,ZaQ inB h,inB,List.append_assoc]
theorem Zop (hM:Zao t≤1000000000000):ZeB t w=some (Y8 t w):=by
 have hil:=Zin t;have h1:=Zaw t.2.1.length;have he:Yd (IntKind.u64.wrap t.1) 4++Zaz t.2.1.length=ZfU t 0:=by simp[ZfU,Zke]
 unfold ZeB;rw[ZhT (by simp),Za,Zfs (by omega),ZjC (by omega) (by simp),Za,List.nil_append,List.nil_append,Zj (by simp; omega),he]
 have:=ZG (step:=ZeT t w) (fun i=>((i:Int),ZfU t i)) t.2.1.length (x:=some (Y8 t w)) (fun i hi=>by
  have h3:=ZnN (t:=t) (i+1);rw[Zoo hi] at h3 ⊢;simp only[List.length_append,ZdT,Zla] at h3;simp only[ZeT];rw[if_pos (by omega),Zi hi,Zpz,Za,Zj (by simp; omega),ZhT (by simp),Za,Zj (by simp; omega),Zu hi (by omega)];simp) (by
  simp only[ZeT]
  rw[if_neg (by omega),Zxf hM])
 simpa using this
theorem ZnP {o:Tapi_Output}(h:o.2.length≤140737488354000):ZdA o=some (ZfT o):=by
 unfold ZdA;rw[Zvc (by simp),Za,Zok (by simp; omega)];rfl
theorem Zt1 (hM:Zao t≤1000000000000){i:Nat}(h:i<t.2.1.length){q:List Int}(hq:q.length+((t.2.1[i]).2.2.flatMap bytesB).length+50≤Zao t) :
  Zd (Zba t.2.1[i] (i:Int)) (0,q)=some (.inl (((i+1:Nat):Int),q++(t.2.1[i]).2.2.flatMap bytesB)):=by
 have hmem:=List.getElem_mem h;have hwl:=Zkf hmem;have hil:=Zin t;generalize t.2.1[i]=x at hq hmem hwl ⊢
 have:=ZG (step:=Zba x (i:Int)) (fun j=>((j:Int),q++(x.2.2.take j).flatMap bytesB)) x.2.2.length (x:=some (.inl (((i+1:Nat):Int),q++x.2.2.flatMap bytesB))) (fun j hj=>by
  simp only[Zba];have h1:=ZqD hj;have h2:=ZpC hmem (List.getElem_mem hj);rw[if_pos (by omega),Zi hj,Zok (by simp only[List.length_append]; omega),Za,Zu hj (by omega),ZaQ bytesB hj];simp) (by
  simp only[Zba];rw[if_neg (by omega)]
  simp only[Zaf,List.take_length,Zu h (by omega)])
 simpa using this
theorem Zv9 (hM:Zao t≤1000000000000):XC (ZfV t t.2.2.1.length) t w=some (Y8 t w):=by
 have hil:=Zin t;have h2:=ZkI (t:=t) t.2.2.1.length;unfold XC;rw[Zds (by omega),Za];have he:ZfV t t.2.2.1.length++Yd (IntKind.u64.wrap t.2.2.2) 4=ZeM t 0:=by simp[ZfV,ZeM]
 rw[he];cases w with
 | false =>
  by_cases h0:(0:Int)<t.2.1.length
  ·refine Y4 ?_
   simp only[Zag];rw[if_pos h0,show(0:Int)=((0:Nat):Int) from rfl,Zi (by omega)];simp[YR,Y8,ZeM]
  ·refine Y4 ?_
   simp only[Zag];rw[if_neg h0];simp[YR,Y8,ZeM]
 | true =>
  have:=ZG (step:=Zag t true) (fun i=>((i:Int),ZeM t i)) t.2.1.length (x:=some (Y8 t true)) (fun i hi=>by
   have h3:=ZpD hi;have h4:=ZnO (t:=t) i;have h5:=Zkf (List.getElem_mem hi);simp only[Zag];rw[if_pos (by omega),Zi hi,if_neg (by simp),Zfs (by omega),Zj1 (by omega) (by omega),Za,Zt1 hM hi h3,ZlS hi]) (by
   simp only[Zag];rw[if_neg (by omega)]
   simp[YR,ZeM,Y8])
  simpa using this
theorem Zwa (hM:Zao t≤1000000000000):XD (ZfU t t.2.1.length) t w=some (Y8 t w):=by
 have hol:=Zom t;have h0:=ZnN (t:=t) t.2.1.length;have he:ZfU t t.2.1.length++Zaz t.2.2.1.length=ZfV t 0:=by simp[ZfU,ZfV]
 unfold XD;rw[Zfs (by omega),Zj1 (by omega) (by omega),Za,he]
 have:=ZG (step:=ZcO t w) (fun i=>((i:Int),ZfV t i)) t.2.2.1.length (x:=some (Y8 t w)) (fun i hi=>by
  have h3:=ZkI (t:=t) (i+1);have h4:=ZpB (List.getElem_mem hi);rw[Zon hi] at h3 ⊢;simp only[List.length_append,ZdT] at h3;simp only[ZcO];rw[if_pos (by omega),Zi hi,ZnP (by omega),Za,Zj (by simp only[ZfT,List.length_append,ZdT]; omega),Zu hi (by omega)];simp[ZfT]) (by
  simp only[ZcO]
  rw[if_neg (by omega),Zv9 hM])
 simpa using this
theorem Zjt (hM:Zao t≤1000000000000):X9 t w=some (Y8 t w):=by
 have hil:=Zin t;have he:Yd (IntKind.u64.wrap t.1) 4++Zaz t.2.1.length=ZfU t 0:=by simp[ZfU,Zke]
 unfold X9;rw[Zds (by simp),Za,Zfs (by omega),Zj1 (by omega) (by simp),Za,List.nil_append,he]
 have:=ZG (step:=ZcP t w) (fun i=>((i:Int),ZfU t i)) t.2.1.length (x:=some (Y8 t w)) (fun i hi=>by
  have h3:=ZnN (t:=t) (i+1);rw[Zoo hi] at h3 ⊢;simp only[List.length_append,ZdT,Zla] at h3;simp only[ZcP];rw[if_pos (by omega),Zi hi,Zol,Za,Zj (by simp; omega),Zds (by simp; omega),Za,Zu hi (by omega)]) (by
  simp only[ZcP]
  rw[if_neg (by omega),Zwa hM])
 simpa using this
def Zio (t:Tapi_Tx):Prop:=t.2.1.length≤64∧t.2.2.1.length≤64∧(∀ o∈t.2.2.1,0≤o.1∧o.2.length≤520)∧∀ x∈t.2.1,x.2.2.length≤32∧∀ s∈x.2.2,s.length≤520
noncomputable def Yl (t:Tapi_Tx):Bool:=by classical exact decide (Zio t∧(Y8 t true).length≤20000)
theorem Zj3 {α:Type}(g:α→Nat) (c:Nat){l:List α}(h:∀ a∈l,g a≤c):(l.map g).sum≤c * l.length:=by
 induction l with
 | nil=>simp
 | cons a l ih =>
  have h1:=h a (by simp);have h2:=ih fun b hb=>h b (by simp[hb])
  simp only[List.map_cons,List.sum_cons,List.length_cons,Nat.mul_add];omega
theorem ZoS (h:Zio t):Zao t≤3000000:=by
 obtain⟨h1,h2,h3,h4⟩:=h
 have e1:=Zj3 (fun x:Tapi_Input=>60+(x.2.2.map fun s=>20+s.length).sum) 20000 (l:=t.2.1) (fun x hx=>by
  obtain⟨g1,g2⟩:=h4 x hx;have:=Zj3 (fun s:List Int=>20+s.length) 540 (l:=x.2.2) (fun s hs=>by have:=g2 s hs; omega);have:=Nat.mul_le_mul_left 540 g1
  omega)
 have e2:=Zj3 (fun o:Tapi_Output=>60+o.2.length) 600 (l:=t.2.2.1) (fun o ho=>by have:=(h3 o ho).2; omega);have:=Nat.mul_le_mul_left 20000 h1;have:=Nat.mul_le_mul_left 600 h2;unfold Zao;omega
theorem Zlc (h:Yl t=true):Zao t≤1000000000000:=by
 classical
 unfold Yl at h;simp only[decide_eq_true_eq] at h;have:=ZoS h.1;omega
end
section
theorem Zvh {t:Tapi_Tx}{w:Bool}:(Y8 t w).length≤Zao t:=by
 have h1:=ZnO (t:=t) t.2.1.length
 have h2:(Y8 t w).length≤(ZeM t t.2.1.length).length:=by
  cases w <;> simp[Y8,ZeM]
 omega
theorem ZpE {x:Tapi_Input}{i n:Nat}(hi:i<n) (hn:n≤64) (hw:x.2.2.length≤32):Zd (ZdJ x (i:Int)) 0=(if ∃ s∈x.2.2,520<s.length then some (.inr false) else some (.inl ((i+1:Nat):Int))):=by
 refine ZdS (step:=ZdJ x (i:Int)) (fun j=>(j:Int)) x.2.2 (fun s=>520<s.length) (some (.inr false)) (some (.inl ((i+1:Nat):Int))) (fun j hj hb=>?_) (fun j hj hb=>?_) ?_ rfl
 ·simp only[ZdJ]
  rw[if_pos (by omega),Zi hj,if_neg (by omega),Zu hj (by omega)]
 ·simp only[ZdJ]
  rw[if_pos (by omega),Zi hj,if_pos (by omega)];rfl
 ·simp only[ZdJ]
  rw[if_neg (by omega)];simp only[Zfb,Zu hi (by omega)]
theorem ZqE (t:Tapi_Tx):Zg4 t=some (Yl t):=by
 classical
 unfold Zg4 Yl;by_cases h0:64<t.2.1.length∨64<t.2.2.1.length
 ·rw[if_pos (by omega)]
  have:¬ Zio t:=fun h=>by have:=h.1; have:=h.2.1; omega
  simp[this]
 ·rw[if_neg (by omega)]
  have h1:=ZdS (step:=Zfd t) (fun i=>(i:Int)) t.2.2.1 (fun o=>o.1<0∨520<o.2.length) (some false) (ZdK t) (fun i hi hb=>by
   simp only[Zfd];rw[if_pos (by omega),Zi hi,if_neg (by omega),Zu hi (by omega)]) (fun i hi hb=>by
   simp only[Zfd];rw[if_pos (by omega),Zi hi,if_pos (by omega)];rfl) (by
   simp only[Zfd]
   rw[if_neg (by omega)]) (s:=0) rfl
  rw[h1];by_cases hb1:∃ o∈t.2.2.1,o.1<0∨520<o.2.length
  ·rw[if_pos hb1]
   obtain⟨o,ho,hb⟩:=hb1;have:¬ Zio t:=fun h=>by have:=h.2.2.1 o ho; omega
   simp[this]
  ·rw[if_neg hb1]
   unfold ZdK
   have h2:=ZdS (step:=Zfc t) (fun i=>(i:Int)) t.2.1 (fun x=>32<x.2.2.length∨∃ s∈x.2.2,520<s.length) (some false) (ZdI t) (fun i hi hb=>by
    have h3:¬ 32<(t.2.1[i]).2.2.length:=fun h=>hb (.inl h)
    have h4:¬ ∃ s∈(t.2.1[i]).2.2,520<s.length:=fun h=>hb (.inr h)
    simp only[Zfc];rw[if_pos (by omega),Zi hi,if_neg (by omega),ZpE hi (by omega) (by omega),if_neg h4]) (fun i hi hb=>by
    simp only[Zfc];rw[if_pos (by omega),Zi hi];by_cases h3:32<(t.2.1[i]).2.2.length
    ·rw[if_pos (by omega)]
     rfl
    ·rw[if_neg (by omega),ZpE hi (by omega) (by omega),if_pos (hb.resolve_left h3)]
     rfl) (by
    simp only[Zfc]
    rw[if_neg (by omega)]) (s:=0) rfl
   rw[h2];by_cases hb2:∃ x∈t.2.1,32<x.2.2.length∨∃ s∈x.2.2,520<s.length
   ·rw[if_pos hb2]
    obtain⟨x,hx,hb⟩:=hb2
    have:¬ Zio t:=fun h=>by
     obtain⟨g1,g2⟩:=h.2.2.2 x hx;rcases hb with hb | ⟨s,hs,hb⟩
     ·omega
     ·have:=g2 s hs; omega
    simp[this]
   ·rw[if_neg hb2]
    have hlim:Zio t:=by
     refine⟨by omega,by omega,fun o ho=>?_,fun x hx=>⟨?_,fun s hs=>?_⟩⟩
     ·have:¬ (o.1<0∨520<o.2.length):=fun h=>hb1 ⟨o,ho,h⟩
      omega
     ·have:¬ 32<x.2.2.length:=fun h=>hb2 ⟨x,hx,.inl h⟩
      omega
     ·have:¬ 520<s.length:=fun h=>hb2 ⟨x,hx,.inr ⟨s,hs,h⟩⟩
      omega
    unfold ZdI;rw[Zop (by have:=ZoS hlim; omega),Za];have e:(((Y8 t true).length:Int)≤20000)↔((Y8 t true).length≤20000):=by omega
    simp[hlim,e]
theorem Zoq {x:Tapi_Input}{i n:Nat}(hi:i<n) (hn:n≤64) (hw:x.2.2.length≤32):Zd (Zbc x (i:Int)) 0=(if ∃ s∈x.2.2,520<s.length then some (.inr false) else some (.inl ((i+1:Nat):Int))):=by
 refine ZdS (step:=Zbc x (i:Int)) (fun j=>(j:Int)) x.2.2 (fun s=>520<s.length) (some (.inr false)) (some (.inl ((i+1:Nat):Int))) (fun j hj hb=>?_) (fun j hj hb=>?_) ?_ rfl
 ·simp only[Zbc]
  rw[if_pos (by omega),Zi hj,if_neg (by omega),Zu hj (by omega)]
 ·simp only[Zbc]
  rw[if_pos (by omega),Zi hj,if_pos (by omega)];rfl
 ·simp only[Zbc]
  rw[if_neg (by omega)];simp only[Zcu,Zu hi (by omega)]
theorem ZeN (t:Tapi_Tx):X0 t=some (Yl t):=by
 classical
 unfold X0 Yl;by_cases h0:64<t.2.1.length∨64<t.2.2.1.length
 ·rw[if_pos (by omega)]
  have:¬ Zio t:=fun h=>by have:=h.1; have:=h.2.1; omega
  simp[this]
 ·rw[if_neg (by omega)]
  have h1:=ZdS (step:=Zcw t) (fun i=>(i:Int)) t.2.2.1 (fun o=>o.1<0∨520<o.2.length) (some false) (Zbd t) (fun i hi hb=>by
   simp only[Zcw];rw[if_pos (by omega),Zi hi,if_neg (by omega),Zu hi (by omega)]) (fun i hi hb=>by
   simp only[Zcw];rw[if_pos (by omega),Zi hi,if_pos (by omega)];rfl) (by
   simp only[Zcw]
   rw[if_neg (by omega)]) (s:=0) rfl
  rw[h1];by_cases hb1:∃ o∈t.2.2.1,o.1<0∨520<o.2.length
  ·rw[if_pos hb1]
   obtain⟨o,ho,hb⟩:=hb1;have:¬ Zio t:=fun h=>by have:=h.2.2.1 o ho; omega
   simp[this]
  ·rw[if_neg hb1]
   unfold Zbd
   have h2:=ZdS (step:=Zcv t) (fun i=>(i:Int)) t.2.1 (fun x=>32<x.2.2.length∨∃ s∈x.2.2,520<s.length) (some false) (Zbb t) (fun i hi hb=>by
    have h3:¬ 32<(t.2.1[i]).2.2.length:=fun h=>hb (.inl h)
    have h4:¬ ∃ s∈(t.2.1[i]).2.2,520<s.length:=fun h=>hb (.inr h)
    simp only[Zcv];rw[if_pos (by omega),Zi hi,if_neg (by omega),Zoq hi (by omega) (by omega),if_neg h4]) (fun i hi hb=>by
    simp only[Zcv];rw[if_pos (by omega),Zi hi];by_cases h3:32<(t.2.1[i]).2.2.length
    ·rw[if_pos (by omega)]
     rfl
    ·rw[if_neg (by omega),Zoq hi (by omega) (by omega),if_pos (hb.resolve_left h3)]
     rfl) (by
    simp only[Zcv]
    rw[if_neg (by omega)]) (s:=0) rfl
   rw[h2];by_cases hb2:∃ x∈t.2.1,32<x.2.2.length∨∃ s∈x.2.2,520<s.length
   ·rw[if_pos hb2]
    obtain⟨x,hx,hb⟩:=hb2
    have:¬ Zio t:=fun h=>by
     obtain⟨g1,g2⟩:=h.2.2.2 x hx;rcases hb with hb | ⟨s,hs,hb⟩
     ·omega
     ·have:=g2 s hs; omega
    simp[this]
   ·rw[if_neg hb2]
    have hlim:Zio t:=by
     refine⟨by omega,by omega,fun o ho=>?_,fun x hx=>⟨?_,fun s hs=>?_⟩⟩
     ·have:¬ (o.1<0∨520<o.2.length):=fun h=>hb1 ⟨o,ho,h⟩
      omega
     ·have:¬ 32<x.2.2.length:=fun h=>hb2 ⟨x,hx,.inl h⟩
      omega
     ·have:¬ 520<s.length:=fun h=>hb2 ⟨x,hx,.inr ⟨s,hs,h⟩⟩
      omega
    unfold Zbb;rw[Zjt (by have:=ZoS hlim; omega),Za];have e:(((Y8 t true).length:Int)≤20000)↔((Y8 t true).length≤20000):=by omega
    simp[hlim,e]
end
def Nx {σ ρ:Type}(I:Nat→σ→Prop) (Q:ρ→Prop) (n:Nat):σ ⊕ ρ→Prop
 | .inl s=>∃ j,j<n∧I j s
 | .inr r=>Q r
theorem ZE {σ ρ:Type}{step:σ→Option (σ ⊕ ρ)}{I:Nat→σ→Prop}{Q:ρ→Prop}(h:∀ n s,I n s→Tot (step s) (Nx I Q n)){n:Nat}{s:σ}(hs:I n s):Tot (Zd step s) Q:=by
 refine X7 I Q (fun i s hi=>?_) n s hs;obtain⟨x,h1,h2⟩:=h i s hi;cases x with
 | inl s' =>
  obtain⟨j,hj,h3⟩:=h2;exact .inl ⟨j,s',hj,h1,h3⟩
 | inr r=>exact .inr ⟨r,h1,h2⟩
theorem Tot.out {σ ρ:Type}{I:Nat→σ→Prop}{Q:ρ→Prop}{n:Nat}{x:Option ρ}(h:Tot x Q):Tot (x.map .inr) (Nx I Q n):=by
 obtain⟨r,rfl,h⟩:=h;exact⟨_,rfl,h⟩
theorem Zw {α:Type}{p:Prop}[Decidable p]{f:Unit→Option α}{Q:α→Prop}(hp:p) (h:Tot (f ()) Q):Tot ((chk p).bind f) Q:=by rw[Zj hp]; exact h
theorem XP {α β:Type}{l:List α}{i:Int}{f:α→Option β}{Q:β→Prop}(h0:0≤i) (h1:i<l.length) (h:∀ x∈l,Tot (f x) Q):Tot ((idx l i).bind f) Q:=by
 obtain⟨n,rfl⟩:=Int.eq_ofNat_of_zero_le h0;rw[Zi (by omega)];exact h _ (List.getElem_mem _)
theorem Y5 {β:Type}{n:Nat}{i:Int}{f:Nat→Option β}{Q:β→Prop}(h0:0≤i) (h1:i<n) (h:∀ j:Nat,(j:Int)=i→j<n→Tot (f j) Q):Tot ((inA n i).bind f) Q:=by
 obtain⟨m,rfl⟩:=Int.eq_ofNat_of_zero_le h0;rw[YM (by omega)];exact h _ rfl (by omega)
theorem Zdt {α β:Type}{l:List α}{i:Nat}{f:α→Option β}{Q:β→Prop}(h1:i<l.length) (h:∀ x,l[i]? = some x→Tot (f x) Q):Tot ((l[i]?).bind f) Q:=by
 rw[Zil h1];exact h _ (List.getElem?_eq_getElem h1)
theorem ZrE {α β:Type}{l:List α}(f:β→α→β) (b:β){i:Nat}(h:i<l.length):(l.take (i+1)).foldl f b=f ((l.take i).foldl f b) l[i]:=by
 rw[List.take_succ_eq_append_getElem h,List.foldl_append];rfl
theorem ZeO {σ ρ:Type}{step:σ→Option (σ ⊕ ρ)}(enc:Nat→σ) (n:Nat) (bad:Nat→Prop) (rb x:Option ρ) [inst:Decidable (∃ i,i<n∧bad i)] (h:∀ i,i<n→(∀ j,j<i→¬ bad j)→¬ bad i→step (enc i)=some (.inl (enc (i+1)))) (hb:∀ i,i<n→(∀ j,j<i→¬ bad j)→bad i→step (enc i)=rb.map .inr) (he:(∀ j,j<n→¬ bad j)→step (enc n)=x.map .inr){s:σ}(hs:s=enc 0):Zd step s=if ∃ i,i<n∧bad i then rb else x:=by
 subst hs;by_cases hx:∃ i,i<n∧bad i
 ·rw[if_pos hx]
  obtain⟨m,hm,hbm,hmin⟩:=Zoj bad n hx;exact ZG enc m (fun i hi=>h i (by omega) (fun j hj=>hmin j (by omega)) (hmin i hi)) (hb m hm hmin hbm)
 ·rw[if_neg hx]
  have hn:∀ i,i<n→¬ bad i:=fun i hi hbi=>hx ⟨i,hi,hbi⟩
  exact ZG enc n (fun i hi=>h i hi (fun j hj=>hn j (by omega)) (hn i hi)) (he hn)
def sumI:List Int→Int
 | []=>0
 | a :: l=>a+sumI l
theorem ZpF (l m:List Int):sumI (l++m)=sumI l+sumI m:=by
 induction l with
 | nil=>simp[sumI]
 | cons a l ih=>simp only[List.cons_append,sumI,ih]; omega
theorem Zcr {l:List Int}{i:Nat}(h:i<l.length):sumI (l.take (i+1))=sumI (l.take i)+l[i]:=by
 rw[List.take_succ_eq_append_getElem h,ZpF];simp[sumI]
theorem Zhe {l:List Int}(h:∀ v∈l,0≤v):0≤sumI l:=by
 induction l with
 | nil=>simp[sumI]
 | cons a l ih =>
  have h1:=h a (by simp);have h2:=ih fun v hv=>h v (by simp[hv])
  simp only[sumI];omega
theorem ZlT {l:List Int}(h:∀ v∈l,0≤v) (i:Nat):sumI (l.take i)≤sumI l:=by
 have h1:sumI l=sumI (l.take i)+sumI (l.drop i):=by rw[← ZpF,List.take_append_drop]
 have h2:=Zhe (l:=l.drop i) fun v hv=>h v (List.mem_of_mem_drop hv)
 omega
theorem ZqF {l:List Int}{c:Int}(h:∀ v∈l,v≤c):sumI l≤l.length * c:=by
 induction l with
 | nil=>simp[sumI]
 | cons a l ih =>
  have h1:=h a (by simp);have h2:=ih fun v hv=>h v (by simp[hv])
  simp only[sumI,List.length_cons];have:((l.length+1:Nat):Int) * c=(l.length:Int) * c+c:=by rw[Int.natCast_add,Int.add_mul]; simp
  omega
theorem Zmf (vs:List Int) (M:Int) (hM:0≤M):(∃ i,i<vs.length∧∃ h:i<vs.length,vs[i]<0∨M<sumI (vs.take (i+1)))↔(∃ v∈vs,v<0∨M<v)∨M<sumI vs:=by
 by_cases hneg:∃ v∈vs,v<0
 ·obtain⟨v,hv,hv0⟩:=hneg
  obtain⟨i,hi,rfl⟩:=List.getElem_of_mem hv;exact⟨fun _=>.inl ⟨_,hv,.inl hv0⟩,fun _=>⟨i,hi,hi,.inl hv0⟩⟩
 ·have hp:∀ v∈vs,0≤v:=fun v hv=>by
   have:¬ v<0:=fun h=>hneg ⟨v,hv,h⟩
   omega
  constructor
  ·rintro⟨i,_,hi,hb⟩
   have h1:=hp _ (List.getElem_mem hi);have h2:=ZlT hp (i+1);exact .inr (by omega)
  ·intro h
   have key:M<sumI vs→∃ i,i<vs.length∧∃ h:i<vs.length,vs[i]<0∨M<sumI (vs.take (i+1)):=by
    intro hs
    have hn:0<vs.length:=by
     rcases Nat.eq_zero_or_pos vs.length with h0 | h0
     ·have:=List.length_eq_zero_iff.1 h0
      subst this;simp only[sumI] at hs;omega
     ·exact h0
    refine⟨vs.length-1,by omega,by omega,.inr ?_⟩;rw[show vs.length-1+1=vs.length by omega,List.take_length];exact hs
   rcases h with ⟨v,hv,hb⟩ | hs
   ·have h0:=hp v hv
    obtain⟨i,hi,rfl⟩:=List.getElem_of_mem hv;refine⟨i,hi,hi,.inr ?_⟩;rw[Zcr hi];have:=Zhe (l:=vs.take i) fun v hv=>hp v (List.mem_of_mem_take hv)
    omega
   ·exact key hs
theorem ZsK {K V:Type}[DecidableEq K] (k a:K) (v:V) (l:List (K×V)):Zb2 k (Zez a v l)=if k=a then some v else Zb2 k l:=by
 induction l with
 | nil=>simp[Zez,Zb2]
 | cons x l ih =>
  obtain⟨b,w⟩:=x;simp only[Zez];by_cases h:a=b
  ·subst h
   rw[if_pos rfl];simp only[Zb2];by_cases hk:k=a <;> simp[hk]
  ·rw[if_neg h]
   simp only[Zb2,ih];by_cases hk:k=b
   ·subst hk
    simp[Ne.symm h]
   ·simp[hk]
def ZnQ (l:List Tapi_OutPoint):List (Tapi_OutPoint×Bool):=l.foldl (fun m p=>Zez p true m) []
theorem Zld (k:Tapi_OutPoint) (l:List Tapi_OutPoint):((Zb2 k (ZnQ l)).getD false=true)↔k∈l:=by
 have key:∀ (l:List Tapi_OutPoint) (m:List (Tapi_OutPoint×Bool)),((Zb2 k (l.foldl (fun m p=>Zez p true m) m)).getD false=true)↔(k∈l∨(Zb2 k m).getD false=true):=by
  intro l;induction l with
  | nil=>intro m; simp
  | cons a l ih =>
   intro m;rw[List.foldl_cons,ih,ZsK];by_cases h:k=a
   ·simp[h]
   ·simp[h]
 have:=key l [];simpa[ZnQ,Zb2] using this
theorem ZsL {l:List Tapi_OutPoint}{i:Nat}(h:i<l.length):ZnQ (l.take (i+1))=Zez l[i] true (ZnQ (l.take i)):=by
 unfold ZnQ;rw[List.take_succ_eq_append_getElem h,List.foldl_append];rfl
abbrev nullP:Tapi_OutPoint:=(zA 32,4294967295)
def cbS (t:Tapi_Tx):Bool:=match t.2.1 with
 | [x]=>decide (x.1=nullP)
 | _=>false
theorem ZrF (t:Tapi_Tx):ZcQ t=some (cbS t):=by
 obtain⟨a,ins,outs,l⟩:=t;unfold ZcQ ZjU cbS
 match ins with
 | []=>simp
 | [x]=>simp[Prod.ext_iff]
 | x :: y :: l =>
  have:¬ ((x :: y :: l).length:Int)=1:=by simp only[List.length_cons]; omega
  dsimp only;simp only[if_neg this,decide_eq_false this];rfl
theorem ZlU (t:Tapi_Tx):XT t=some (cbS t):=by
 rw[← ZrF];rfl
def Z6 (t:Tapi_Tx):List Int:=t.2.2.1.map Prod.fst
def Z1 (t:Tapi_Tx):List Tapi_OutPoint:=t.2.1.map Prod.fst
def ZrG (l:List Tapi_OutPoint):Prop:=∃ i,i<l.length∧∃ h:i<l.length,l[i]∈l.take i
noncomputable def ZgG (t:Tapi_Tx):Int:=by
 classical exact if ¬ Yl t=true then 4 else if t.2.1.length=0∨t.2.2.1.length=0 then 93 else if (2100000000000000:Int)<sumI (Z6 t) then 90 else if ZrG (Z1 t) then 91 else if nullP∈Z1 t∧¬ cbS t=true then 92 else 0
theorem Zip {t:Tapi_Tx}(h:Yl t=true):Zio t:=by
 classical
 unfold Yl at h;simp only[decide_eq_true_eq] at h;exact h.1
section
variable {t:Tapi_Tx}
theorem ZpG (h:Zio t):∀ v∈Z6 t,0≤v:=by
 intro v hv;obtain⟨o,ho,rfl⟩:=List.mem_map.1 hv;exact(h.2.2.1 o ho).1
theorem Zt2 (h:Zio t):ZlI t.2.2.1=some (decide (¬ (2100000000000000:Int)<sumI (Z6 t))):=by
 classical
 have hp:=ZpG h;have hl:(Z6 t).length=t.2.2.1.length:=by simp[Z6]
 have hget:∀ i (h1:i<t.2.2.1.length),(Z6 t)[i]'(by omega)=(t.2.2.1[i]).1:=by intro i h1; simp[Z6]
 unfold ZlI;have h64:=h.2.1
 have hbnd:∀ i,(∀ j,j<i→¬ ∃ h:j<(Z6 t).length,(Z6 t)[j]<0∨(2100000000000000:Int)<sumI ((Z6 t).take (j+1)))→i≤(Z6 t).length→0≤sumI ((Z6 t).take i)∧sumI ((Z6 t).take i)≤(2100000000000000:Int):=by
  intro i hj hi;refine⟨Zhe fun v hv=>hp v (List.mem_of_mem_take hv),?_⟩;cases i with
  | zero=>simp[sumI]
  | succ i =>
   have:=hj i (by omega);have h2:¬ (2100000000000000:Int)<sumI ((Z6 t).take (i+1)):=fun h=>this ⟨by omega,.inr h⟩
   omega
 rw[ZeO (s:=(0,0)) (step:=ZfM t.2.2.1) (fun i=>(sumI ((Z6 t).take i),(i:Int))) (Z6 t).length (fun i=>∃ h:i<(Z6 t).length,(Z6 t)[i]<0∨(2100000000000000:Int)<sumI ((Z6 t).take (i+1))) (some false) (some true) ?_ ?_ ?_ rfl]
 ·by_cases hs:(2100000000000000:Int)<sumI (Z6 t)
  ·rw[if_pos ((Zmf _ _ (by decide)).2 (.inr hs))]
   simp[hs]
  ·rw[if_neg]
   ·simp[hs]
   ·intro hb
    rcases(Zmf _ _ (by decide)).1 hb with ⟨v,hv,hb⟩ | hb
    ·have h0:=hp v hv
     have:=(Zmf (Z6 t) (2100000000000000:Int) (by decide)).2 (.inl ⟨v,hv,hb⟩);obtain⟨i,_,hi,hb'⟩:=this;have h1:=hp _ (List.getElem_mem hi);have h2:=ZlT hp (i+1);omega
    ·exact hs hb
 ·intro i hi hj hb
  have hb0:=hbnd i hj (by omega);have hb1:¬ (2100000000000000:Int)<sumI ((Z6 t).take (i+1)):=fun h=>hb ⟨hi,.inr h⟩
  have h0:=hp _ (List.getElem_mem hi);have hg:=hget i (by omega);rw[Zcr hi] at hb1;simp only[ZfM];rw[if_pos (by omega),Zi (by omega),wi _ (by omega),if_neg (by omega),wi _ (by omega),Zu hi (by omega),Zcr hi,hg]
 ·intro i hi hj hb
  have hb0:=hbnd i hj (by omega);obtain⟨_,hb⟩:=hb;have h0:=hp _ (List.getElem_mem hi);have hg:=hget i (by omega);rw[Zcr hi] at hb;simp only[ZfM];rw[if_pos (by omega),Zi (by omega),wi _ (by omega),if_pos (by omega)];rfl
 ·intro hj
  simp only[ZfM];rw[if_neg (by omega)];rfl
theorem pts_len:(Z1 t).length=t.2.1.length:=by simp[Z1]
theorem Ziq {i:Nat}(h1:i<t.2.1.length) (h2:i<(Z1 t).length):(Z1 t)[i]=(t.2.1[i]).1:=by simp[Z1]
theorem Zt3 (t:Tapi_Tx):ZlK t=some (ZgG t):=by
 classical
 unfold ZlK ZgG;rw[ZqE,Za];by_cases hf:Yl t=true
 ·have hlim:=Zip hf
  have h64:=hlim.1;have hnf:¬ ¬ Yl t=true:=by simp[hf]
  rw[if_neg hnf,if_neg hnf];by_cases h0:t.2.1.length=0∨t.2.2.1.length=0
  ·rw[if_pos (show(t.2.1.length:Int)=0∨(t.2.2.1.length:Int)=0 by omega),if_pos h0]
  ·rw[if_neg (show ¬ ((t.2.1.length:Int)=0∨(t.2.2.1.length:Int)=0) by omega),if_neg h0,Zt2 hlim,Za]
   by_cases hs:(2100000000000000:Int)<sumI (Z6 t)
   ·rw[if_pos (by simp[hs]),if_pos hs]
   ·rw[if_neg (by simp[hs]),if_neg hs]
    have hl:=pts_len (t:=t);rw[ZeO (s:=(0,[])) (step:=ZfN t) (fun i=>((i:Int),ZnQ ((Z1 t).take i))) (Z1 t).length (fun i=>∃ h:i<(Z1 t).length,(Z1 t)[i]∈(Z1 t).take i) (some 91) (some (if nullP∈Z1 t∧¬ cbS t=true then 92 else 0)) ?_ ?_ ?_ rfl]
    ·by_cases hd:ZrG (Z1 t)
     ·rw[if_pos (show ∃ i,i<(Z1 t).length∧∃ h:i<(Z1 t).length,(Z1 t)[i]∈(Z1 t).take i from hd),if_pos hd]
     ·rw[if_neg (show ¬ ∃ i,i<(Z1 t).length∧∃ h:i<(Z1 t).length,(Z1 t)[i]∈(Z1 t).take i from hd),if_neg hd]
    ·intro i hi _ hb
     have hg:=Ziq (t:=t) (by omega) hi;simp only[ZfN];rw[if_pos (by omega),Zi (by omega),if_neg,Zu hi (by omega),ZsL hi,hg];rw[← hg,Zld];exact fun h=>hb ⟨hi,h⟩
    ·intro i hi _ hb
     have hg:=Ziq (t:=t) (by omega) hi;simp only[ZfN];rw[if_pos (by omega),Zi (by omega),if_pos]
     ·rfl
     ·rw[← hg,Zld]
      exact hb.2
    ·intro _
     simp only[ZfN];rw[if_neg (by omega),List.take_length];unfold ZlJ;rw[ZrF];by_cases hn:nullP∈Z1 t
     ·have hn' := (Zld _ _).2 hn
      rw[if_pos hn'];cases hc:cbS t <;> simp[hn,hn']
     ·have hn':¬ _:=fun h=>hn ((Zld nullP (Z1 t)).1 h)
      rw[if_neg hn'];simp[hn,hn']
 ·rw[if_pos hf,if_pos hf]
theorem ZqG {i:Nat}(hi:i<t.2.1.length) (h64:t.2.1.length≤64):(Zd (ZaI (i:Int) t) 0)=(by classical exact if ∃ h:i<(Z1 t).length,(Z1 t)[i]∈(Z1 t).take i then some (.inr 91) else some (.inl ((i+1:Nat):Int))):=by
 classical
 have hl:=pts_len (t:=t);have hgi:=Ziq hi (by omega);rw[ZeO (s:=0) (step:=ZaI (i:Int) t) (fun j=>(j:Int)) i (fun j=>∃ h:j<(Z1 t).length,(Z1 t)[i]'(by omega)=(Z1 t)[j]) (some (.inr 91)) (some (.inl ((i+1:Nat):Int))) ?_ ?_ ?_ rfl]
 ·have e:(∃ j,j<i∧∃ h:j<(Z1 t).length,(Z1 t)[i]'(by omega)=(Z1 t)[j])↔∃ h:i<(Z1 t).length,(Z1 t)[i]∈(Z1 t).take i:=by
   constructor
   ·rintro⟨j,hj,hj2,e⟩
    refine⟨by omega,?_⟩;rw[e];exact List.mem_take_iff_getElem.2 ⟨j,by omega,rfl⟩
   ·rintro⟨h,hm⟩
    obtain⟨j,hj,e⟩:=List.mem_take_iff_getElem.1 hm;exact⟨j,by omega,by omega,e.symm⟩
  simp only[e]
 ·intro j hj _ hb
  have hgj:=Ziq (t:=t) (i:=j) (by omega) (by omega);simp only[ZaI];rw[if_pos (by omega),Zi (by omega),Zi (by omega),if_neg,Zu hj (by omega)];intro h;exact hb ⟨by omega,by rw[hgi,hgj]; exact Prod.ext h.1 h.2⟩
 ·intro j hj _ hb
  have hgj:=Ziq (t:=t) (i:=j) (by omega) (by omega);obtain⟨_,hb⟩:=hb;rw[hgi,hgj] at hb;simp only[ZaI];rw[if_pos (by omega),Zi (by omega),Zi (by omega),if_pos ⟨congrArg Prod.fst hb,congrArg Prod.snd hb⟩];rfl
 ·intro _
  simp only[ZaI];rw[if_neg (by omega)];simp only[ZaH,Zu hi (by omega)]
theorem Zt4 (h64:t.2.1.length≤64):XU t=(by classical exact some (if nullP∈Z1 t∧¬ cbS t=true then 92 else 0)):=by
 classical
 unfold XU;have hl:=pts_len (t:=t);rw[ZeO (s:=0) (step:=ZbR t) (fun j=>(j:Int)) (Z1 t).length (fun j=>∃ h:j<(Z1 t).length,(Z1 t)[j]=nullP∧¬ cbS t=true) (some 92) (some 0) ?_ ?_ ?_ rfl]
 ·have e:(∃ j,j<(Z1 t).length∧∃ h:j<(Z1 t).length,(Z1 t)[j]=nullP∧¬ cbS t=true)↔nullP∈Z1 t∧¬ cbS t=true:=by
   constructor
   ·rintro⟨j,_,hj,e,hc⟩
    exact⟨e ▸ List.getElem_mem hj,hc⟩
   ·rintro⟨hm,hc⟩
    obtain⟨j,hj,e⟩:=List.getElem_of_mem hm;exact⟨j,hj,hj,e,hc⟩
  simp only[e];split <;> rfl
 ·intro i hi _ hb
  have hg:=Ziq (t:=t) (by omega) hi;simp only[ZbR];rw[if_pos (by omega),Zi (by omega),ZlU];unfold ZdL;rw[Za];by_cases hn:(t.2.1[i]'(by omega)).1=nullP
  ·have hc:cbS t=true:=Decidable.byContradiction fun h=>hb ⟨hi,by rw[hg,hn],h⟩
   rw[hn];simp[hc,Zu hi (show(Z1 t).length≤9223372036854775807 by omega)]
  ·have hn':¬ ((decide ((t.2.1[i]'(by omega)).1.1=zA 32) && decide ((t.2.1[i]'(by omega)).1.2=4294967295))=true):=by
    simp only[Bool.and_eq_true,decide_eq_true_eq];exact fun h=>hn (Prod.ext h.1 h.2)
   rw[if_neg hn',Za,if_neg (fun h=>hn' h.1),Zu hi (by omega)]
 ·intro i hi _ hb
  have hg:=Ziq (t:=t) (by omega) hi;obtain⟨_,hb,hc⟩:=hb;rw[hg] at hb;simp only[ZbR];rw[if_pos (by omega),Zi (by omega),ZlU];unfold ZdL;rw[Za,hb];simp[hc]
 ·intro _
  simp only[ZbR];rw[if_neg (by omega)];rfl
theorem Zor (t:Tapi_Tx):ZcR t=some (ZgG t):=by
 classical
 unfold ZcR ZgG;rw[ZeN,Za];by_cases hf:Yl t=true
 ·have hlim:=Zip hf
  have h64:=hlim.1;have h65:=hlim.2.1;have hp:=ZpG hlim;have hnf:¬ ¬ Yl t=true:=by simp[hf]
  rw[if_neg hnf,if_neg hnf];by_cases h0:t.2.1.length=0∨t.2.2.1.length=0
  ·rw[if_pos (show(t.2.1.length:Int)=0∨(t.2.2.1.length:Int)=0 by omega),if_pos h0]
  ·rw[if_neg (show ¬ ((t.2.1.length:Int)=0∨(t.2.2.1.length:Int)=0) by omega),if_neg h0]
   have hl:(Z6 t).length=t.2.2.1.length:=by simp[Z6]
   have hget:∀ i (h1:i<t.2.2.1.length),(Z6 t)[i]'(by omega)=(t.2.2.1[i]).1:=by intro i h1; simp[Z6]
   have hk1:Xu (sumI (Z6 t)) t=some (if (2100000000000000:Int)<sumI (Z6 t) then 90 else if ZrG (Z1 t) then 91 else if nullP∈Z1 t∧¬ cbS t=true then 92 else 0):=by
    unfold Xu;by_cases hs:(2100000000000000:Int)<sumI (Z6 t)
    ·rw[if_pos hs,if_pos hs]
    ·rw[if_neg hs,if_neg hs]
     have hl:=pts_len (t:=t);rw[ZeO (s:=0) (step:=ZbS t) (fun i=>(i:Int)) (Z1 t).length (fun i=>∃ h:i<(Z1 t).length,(Z1 t)[i]∈(Z1 t).take i) (some 91) (some (if nullP∈Z1 t∧¬ cbS t=true then 92 else 0)) ?_ ?_ ?_ rfl]
     ·by_cases hd:ZrG (Z1 t)
      ·rw[if_pos (show ∃ i,i<(Z1 t).length∧∃ h:i<(Z1 t).length,(Z1 t)[i]∈(Z1 t).take i from hd),if_pos hd]
      ·rw[if_neg (show ¬ ∃ i,i<(Z1 t).length∧∃ h:i<(Z1 t).length,(Z1 t)[i]∈(Z1 t).take i from hd),if_neg hd]
     ·intro i hi _ hb
      simp only[ZbS];rw[if_pos (by omega),ZqG (by omega) h64,if_neg hb]
     ·intro i hi _ hb
      simp only[ZbS];rw[if_pos (by omega),ZqG (by omega) h64,if_pos hb];rfl
     ·intro _
      simp only[ZbS];rw[if_neg (by omega),Zt4 h64]
   have hbnd:∀ i,(∀ j,j<i→¬ ∃ h:j<(Z6 t).length,(2100000000000000:Int)<(Z6 t)[j])→i≤(Z6 t).length→0≤sumI ((Z6 t).take i)∧sumI ((Z6 t).take i)≤i * (2100000000000000:Int):=by
    intro i hj hi;refine⟨Zhe fun v hv=>hp v (List.mem_of_mem_take hv),?_⟩
    have:=ZqF (l:=(Z6 t).take i) (c:=(2100000000000000:Int)) (fun v hv=>by
     obtain⟨j,hj2,rfl⟩:=List.mem_take_iff_getElem.1 hv;have h1:¬ (2100000000000000:Int)<(Z6 t)[j]:=fun h=>hj j (by omega) ⟨by omega,h⟩
     omega)
    rw[List.length_take,Nat.min_eq_left hi] at this;exact this
   rw[ZeO (s:=(0,0)) (step:=ZbT t) (fun i=>(sumI ((Z6 t).take i),(i:Int))) (Z6 t).length (fun i=>∃ h:i<(Z6 t).length,(2100000000000000:Int)<(Z6 t)[i]) (some 90) (Xu (sumI (Z6 t)) t) ?_ ?_ ?_ rfl]
   ·rw[hk1]
    by_cases hx:∃ i,i<(Z6 t).length∧∃ h:i<(Z6 t).length,(2100000000000000:Int)<(Z6 t)[i]
    ·rw[if_pos hx]
     obtain⟨i,_,hi,hb⟩:=hx;have h1:=ZlT hp (i+1);rw[Zcr hi] at h1;have h2:=Zhe (l:=(Z6 t).take i) fun v hv=>hp v (List.mem_of_mem_take hv)
     rw[if_pos (by omega)]
    ·rw[if_neg hx]
   ·intro i hi hj hb
    have hb0:=hbnd i hj (by omega);have hb1:¬ (2100000000000000:Int)<(Z6 t)[i]:=fun h=>hb ⟨hi,h⟩
    have h0:=hp _ (List.getElem_mem hi);have hg:=hget i (by omega);have hi64:(i:Int)≤64:=by omega
    simp only[ZbT];rw[if_pos (by omega),Zi (by omega),if_neg (by omega),wi _ (by omega),Zu hi (by omega),Zcr hi,hg]
   ·intro i hi hj hb
    obtain⟨_,hb⟩:=hb;have hg:=hget i (by omega);simp only[ZbT];rw[if_pos (by omega),Zi (by omega),if_pos (by omega)];rfl
   ·intro _
    simp only[ZbT];rw[if_neg (by omega),List.take_length]
 ·rw[if_pos hf,if_pos hf]
end
theorem Zwb {t:Tapi_Tx}(h:ZgG t=0):t.2.1.length≤64∧t.2.2.1.length≤64:=by
 classical
 unfold ZgG at h;by_cases hf:Yl t=true
 ·have:=Zip hf
  exact⟨this.1,this.2.1⟩
 ·rw[if_pos hf] at h
  omega
def ZI (l:List Tapi_Coin):List Int:=l.map fun c=>c.2.1.1
def Zj4 (vs:List Int):Prop:=(∃ v∈vs,v<0∨(2100000000000000:Int)<v)∨(2100000000000000:Int)<sumI vs
section
variable {l:List Tapi_Coin}
theorem Znn {i:Nat}(h1:i<l.length) (h2:i<(ZI l).length):(ZI l)[i]=(l[i]).2.1.1:=by simp[ZI]
theorem ZsM (h64:l.length≤64):Zk6 l=(by classical exact if Zj4 (ZI l) then some (0,false) else some (sumI (ZI l),true)):=by
 classical
 have hl:(ZI l).length=l.length:=by simp[ZI]
 have hbnd:∀ i,(∀ j,j<i→¬ ∃ h:j<(ZI l).length,(ZI l)[j]<0∨(2100000000000000:Int)<sumI ((ZI l).take (j+1)))→i≤(ZI l).length→0≤sumI ((ZI l).take i)∧sumI ((ZI l).take i)≤(2100000000000000:Int):=by
  intro i hj hi;refine⟨Zhe fun v hv=>?_,?_⟩
  ·obtain⟨j,hj2,rfl⟩:=List.mem_take_iff_getElem.1 hv
   have h1:¬ (ZI l)[j]<0:=fun h=>hj j (by omega) ⟨by omega,.inl h⟩
   omega
  ·cases i with
   | zero=>simp[sumI]
   | succ i =>
    have h2:¬ (2100000000000000:Int)<sumI ((ZI l).take (i+1)):=fun h=>hj i (by omega) ⟨by omega,.inr h⟩
    omega
 unfold Zk6;rw[ZeO (s:=(0,0)) (step:=ZeU l) (fun i=>(sumI ((ZI l).take i),(i:Int))) (ZI l).length (fun i=>∃ h:i<(ZI l).length,(ZI l)[i]<0∨(2100000000000000:Int)<sumI ((ZI l).take (i+1))) (some (0,false)) (some (sumI (ZI l),true)) ?_ ?_ ?_ rfl]
 ·simp only[Zmf (ZI l) (2100000000000000:Int) (by decide)]
  by_cases hs:Zj4 (ZI l)
  ·rw[if_pos (show(∃ v∈ZI l,v<0∨(2100000000000000:Int)<v)∨(2100000000000000:Int)<sumI (ZI l) from hs),if_pos hs]
  ·rw[if_neg (show ¬ ((∃ v∈ZI l,v<0∨(2100000000000000:Int)<v)∨(2100000000000000:Int)<sumI (ZI l)) from hs),if_neg hs]
 ·intro i hi hj hb
  have hb0:=hbnd i hj (by omega);have hb1:¬ (2100000000000000:Int)<sumI ((ZI l).take (i+1)):=fun h=>hb ⟨hi,.inr h⟩
  have h0:¬ (ZI l)[i]<0:=fun h=>hb ⟨hi,.inl h⟩
  have hg:=Znn (l:=l) (by omega) hi;rw[Zcr hi] at hb1;simp only[ZeU];rw[if_pos (by omega),Zi (by omega),wi (2100000000000000-_) (by omega),if_neg (by omega),wi _ (by omega),Zu hi (by omega),Zcr hi,hg]
 ·intro i hi hj hb
  have hb0:=hbnd i hj (by omega);obtain⟨_,hb⟩:=hb;have hg:=Znn (l:=l) (by omega) hi;rw[Zcr hi] at hb;simp only[ZeU];rw[if_pos (by omega),Zi (by omega),wi _ (by omega),if_pos (by omega)];rfl
 ·intro hj
  simp only[ZeU];rw[if_neg (by omega),List.take_length];rfl
theorem Zvi {t:Tapi_Tx}(h64:l.length≤64):Za0 l t=(by classical exact if Zj4 (ZI l) then some (0,90) else Zd (Zaa t) (sumI (ZI l),0)):=by
 classical
 have hl:(ZI l).length=l.length:=by simp[ZI]
 have hbnd:∀ i,(∀ j,j<i→¬ ∃ h:j<(ZI l).length,(ZI l)[j]<0∨(2100000000000000:Int)<(ZI l)[j])→i≤(ZI l).length→0≤sumI ((ZI l).take i)∧sumI ((ZI l).take i)≤i * (2100000000000000:Int):=by
  intro i hj hi
  have hp:∀ v∈(ZI l).take i,0≤v∧v≤(2100000000000000:Int):=fun v hv=>by
   obtain⟨j,hj2,rfl⟩:=List.mem_take_iff_getElem.1 hv;have h1:¬ (ZI l)[j]<0:=fun h=>hj j (by omega) ⟨by omega,.inl h⟩
   have h2:¬ (2100000000000000:Int)<(ZI l)[j]:=fun h=>hj j (by omega) ⟨by omega,.inr h⟩
   omega
  refine⟨Zhe fun v hv=>(hp v hv).1,?_⟩;have:=ZqF (l:=(ZI l).take i) (c:=(2100000000000000:Int)) (fun v hv=>(hp v hv).2);rw[List.length_take,Nat.min_eq_left hi] at this;exact this
 unfold Za0;rw[ZeO (s:=(0,0)) (step:=Zdg l t) (fun i=>(sumI ((ZI l).take i),(i:Int))) (ZI l).length (fun i=>∃ h:i<(ZI l).length,(ZI l)[i]<0∨(2100000000000000:Int)<(ZI l)[i]) (some (0,90)) (Zb5 (sumI (ZI l)) t) ?_ ?_ ?_ rfl]
 ·by_cases hx:∃ i,i<(ZI l).length∧∃ h:i<(ZI l).length,(ZI l)[i]<0∨(2100000000000000:Int)<(ZI l)[i]
  ·have hs:Zj4 (ZI l):=by
    obtain⟨i,_,hi,hb⟩:=hx;exact .inl ⟨_,List.getElem_mem hi,hb⟩
   rw[if_pos hx,if_pos hs]
  ·rw[if_neg hx]
   unfold Zb5;by_cases hs:(2100000000000000:Int)<sumI (ZI l)
   ·have hs':Zj4 (ZI l):=.inr hs
    rw[if_pos hs,if_pos hs']
   ·have hs':¬ Zj4 (ZI l):=by
     rintro(⟨v,hv,hb⟩ | h)
     ·obtain⟨i,hi,rfl⟩:=List.getElem_of_mem hv
      exact hx ⟨i,hi,hi,hb⟩
     ·exact hs h
    rw[if_neg hs,if_neg hs']
 ·intro i hi hj hb
  have hb0:=hbnd i hj (by omega);have hb1:¬ ((ZI l)[i]<0∨(2100000000000000:Int)<(ZI l)[i]):=fun h=>hb ⟨hi,h⟩
  have hg:=Znn (l:=l) (by omega) hi;have hi64:(i:Int)≤64:=by omega
  simp only[Zdg];rw[if_pos (by omega),Zi (by omega),if_neg (by omega),wi _ (by omega),Zu hi (by omega),Zcr hi,hg]
 ·intro i hi hj hb
  obtain⟨_,hb⟩:=hb;have hg:=Znn (l:=l) (by omega) hi;simp only[Zdg];rw[if_pos (by omega),Zi (by omega),if_pos (by omega)];rfl
 ·intro _
  simp only[Zdg];rw[if_neg (by omega),List.take_length]
end
theorem Zvj (t:Tapi_Tx):Zlo t=Zaa t:=by
 funext ⟨a,b⟩
 rfl
def ZpH (n:Int) (l:List Tapi_Output):Int:=l.foldl (fun n x=>IntKind.i64.wrap (n-x.1)) n
theorem Zt5 {t:Tapi_Tx}(h:t.2.2.1.length≤64) (n:Int):∃ r,Zd (Zaa t) (n,0)=some r:=by
 have:=ZG (step:=Zaa t) (fun i=>(ZpH n (t.2.2.1.take i),(i:Int))) t.2.2.1.length (x:=ZaZ (ZpH n t.2.2.1)) (fun i hi=>by
  simp only[Zaa];rw[if_pos (by omega),Zi hi,Zu hi (by omega)];unfold ZpH;rw[ZrE _ _ hi]) (by
  simp only[Zaa]
  rw[if_neg (by omega),List.take_length])
 have e:Zd (Zaa t) (n,0)=ZaZ (ZpH n t.2.2.1):=by simpa[ZpH] using this
 rw[e];unfold ZaZ;split <;> exact⟨_,rfl⟩
theorem Zt6 (t:Tapi_Tx) (l:List Tapi_Coin):∃ r,Znj t l=some r∧Zf2 t l=some r:=by
 classical
 unfold Znj Zf2;rw[Zt3,Zor,Za,Za];by_cases hc:ZgG t=0
 ·obtain⟨h64,h65⟩:=Zwb hc
  have hnc:¬ ¬ ZgG t=0:=by simp[hc]
  rw[if_neg hnc,if_neg hnc];by_cases hn:(l.length:Int)=(t.2.1.length:Int)
  ·have hnn:¬ ¬ (l.length:Int)=(t.2.1.length:Int):=by simp[hn]
   rw[if_neg hnn,if_neg hnn]
   have hk:∃ r,ZiS l t=some r∧Za0 l t=some r:=by
    rw[Zvi (by omega)];unfold ZiS;rw[ZsM (by omega)];by_cases hs:Zj4 (ZI l)
    ·rw[if_pos hs,if_pos hs]
     exact⟨_,rfl,rfl⟩
    ·rw[if_neg hs,if_neg hs,Za,if_neg (by simp),Zvj]
     obtain⟨r,hr⟩:=Zt5 h65 (sumI (ZI l));exact⟨r,hr,hr⟩
   obtain⟨r,hk1,hk2⟩:=hk
   have e1:=ZdS (s:=0) (step:=ZeV l t) (fun i=>(i:Int)) (l.zip t.2.1) (fun x=>¬ (x.1.1.1=x.2.1.1∧x.1.1.2=x.2.1.2)) (some (0,101)) (some r) (fun i hi hb=>by
    have hi2:i<l.length:=by simp at hi; omega
    have hi3:i<t.2.1.length:=by simp at hi; omega
    simp only[List.getElem_zip] at hb;simp only[ZeV];rw[if_pos (by omega),Zi hi2,Zi hi3,if_neg hb,Zu hi2 (by omega)]) (fun i hi hb=>by
    have hi2:i<l.length:=by simp at hi; omega
    have hi3:i<t.2.1.length:=by simp at hi; omega
    simp only[List.getElem_zip] at hb;simp only[ZeV];rw[if_pos (by omega),Zi hi2,Zi hi3,if_pos hb];rfl) (by
    have:(l.zip t.2.1).length=l.length:=by simp; omega
    simp only[ZeV]
    rw[if_neg (by omega),hk1]) rfl
   have e2:=ZdS (s:=0) (step:=Zdh l t) (fun i=>(i:Int)) (l.zip t.2.1) (fun x=>¬ (x.1.1.1=x.2.1.1∧x.1.1.2=x.2.1.2)) (some (0,101)) (some r) (fun i hi hb=>by
    have hi2:i<l.length:=by simp at hi; omega
    have hi3:i<t.2.1.length:=by simp at hi; omega
    simp only[List.getElem_zip] at hb;simp only[Zdh];rw[if_pos (by omega),Zi hi2,Zi hi3,if_neg hb,Zu hi2 (by omega)]) (fun i hi hb=>by
    have hi2:i<l.length:=by simp at hi; omega
    have hi3:i<t.2.1.length:=by simp at hi; omega
    simp only[List.getElem_zip] at hb;simp only[Zdh];rw[if_pos (by omega),Zi hi2,Zi hi3,if_pos hb];rfl) (by
    have:(l.zip t.2.1).length=l.length:=by simp; omega
    simp only[Zdh]
    rw[if_neg (by omega),hk2]) rfl
   rw[e1,e2];split <;> exact⟨_,rfl,rfl⟩
  ·rw[if_pos hn,if_pos hn]
   exact⟨_,rfl,rfl⟩
 ·rw[if_pos hc,if_pos hc]
  exact⟨_,rfl,rfl⟩
theorem ZqH {k:IntKind}(h:k.signed=false) (x:Int):0≤k.wrap x:=by
 cases k <;> simp[IntKind.signed] at h <;> simp[IntKind.wrap,IntKind.signed,IntKind.bits] <;> omega
theorem Zvk {k:IntKind}(h:k.signed=false) (op:BinOp) (x y:Int):0≤bits op k x y:=ZqH h _
def rot (x n:Int):Int:=bits .or .u32 (IntKind.u32.wrap (x * (2 ^ (min (bits .and .u64 (IntKind.u64.wrap n) 31).toNat 32)))) (x.fdiv (2 ^ (min (IntKind.u64.wrap (32-(bits .and .u64 (IntKind.u64.wrap n) 31))).toNat 32)))
theorem ZsN (x n:Int):YL x n=some (rot x n):=by
 have h1:¬ bits .and .u64 (IntKind.u64.wrap n) 31<0:=by have:=Zvk (k:=.u64) rfl .and (IntKind.u64.wrap n) 31; omega
 have h2:¬ IntKind.u64.wrap (32-bits .and .u64 (IntKind.u64.wrap n) 31)<0:=by have:=ZqH (k:=.u64) rfl (32-bits .and .u64 (IntKind.u64.wrap n) 31); omega
 unfold YL;rw[Zj h1,Zj h2];rfl
def rr (x n:Int):Int:=rot x (IntKind.i64.wrap (-n))
theorem ZiF (x n:Int):XE x n=some (rr x n):=by
 unfold XE;rw[ZsN];rfl
theorem ZgH (x n:Int):YS x n=some (rr x n):=by
 unfold YS;rw[ZsN];rfl
def wd (b:Arr 64) (i:Nat):Nat→Int
 | 0=>0
 | j+1=>bits .or .u32 (IntKind.u32.wrap (wd b i j * 256)) (IntKind.u32.wrap (b.at (4 * i+j)))
def Zir (b:Arr 64):Nat→Arr 64
 | 0=>zA 64
 | i+1=>(Zir b i).put i (wd b i 4)
theorem ZqI (b:Arr 64):∀ (i j:Nat),i≤j→(Zir b i).at j=0
 | 0,j,_=>Zw0
 | i+1,j,h=>by
  unfold Zir;rw[Arr.at_put_ne _ (by omega)];exact ZqI b i j (by omega)
def nxtW (w:Arr 64) (i:Nat):Int:=IntKind.u32.wrap ((IntKind.u32.wrap ((IntKind.u32.wrap ((w.at (i-16))+(bits .xor .u32 (bits .xor .u32 (rr (w.at (i-15)) 7) (rr (w.at (i-15)) 18)) ((w.at (i-15)).fdiv 8))))+(w.at (i-7))))+(bits .xor .u32 (bits .xor .u32 (rr (w.at (i-2)) 17) (rr (w.at (i-2)) 19)) ((w.at (i-2)).fdiv 1024)))
def Zle (w:Arr 64):Nat→Arr 64
 | 0=>w
 | k+1=>(Zle w k).put (16+k) (nxtW (Zle w k) (16+k))
def ZdH (b:Arr 64):Arr 64:=Zle (Zir b 16) 48
theorem ZaR {n i:Nat}{z:Int}{β:Type}{f:Nat→Option β}(h:z=(i:Int)) (hi:i<n):(inA n z).bind f=f i:=by
 subst h;exact YM hi
theorem Zwc (w:Arr 64):Zah w=some (Zle w 48):=by
 unfold Zah
 have:=ZG (step:=Lsha_schedule_s2) (fun k=>(((16+k:Nat):Int),Zle w k)) 48 (x:=some (Zle w 48)) (fun k hk=>by
  simp only[Lsha_schedule_s2];rw[if_pos (by omega),ZaR (i:=16+k-15) (by rw[wi _ (by omega)]; omega) (by omega),ZiF,Za,ZiF,Za,ZaR (i:=16+k-2) (by rw[wi _ (by omega)]; omega) (by omega),ZiF,Za,ZiF,Za,ZaR (i:=16+k-16) (by rw[wi _ (by omega)]; omega) (by omega),ZaR (i:=16+k-7) (by rw[wi _ (by omega)]; omega) (by omega),ZaR (i:=16+k) rfl (by omega),wi _ (by omega)];rfl) (by
  simp only[Lsha_schedule_s2];rw[if_neg (by omega)]
  rfl)
 exact this
theorem Zwd (w:Arr 64):Zas w=some (Zle w 48):=by
 unfold Zas
 have:=ZG (step:=Lref03_schedule_s2) (fun k=>(((16+k:Nat):Int),Zle w k)) 48 (x:=some (Zle w 48)) (fun k hk=>by
  simp only[Lref03_schedule_s2];rw[if_pos (by omega),ZaR (i:=16+k-15) (by rw[wi _ (by omega)]; omega) (by omega),ZgH,Za,ZgH,Za,ZaR (i:=16+k-2) (by rw[wi _ (by omega)]; omega) (by omega),ZgH,Za,ZgH,Za,ZaR (i:=16+k-16) (by rw[wi _ (by omega)]; omega) (by omega),ZaR (i:=16+k-7) (by rw[wi _ (by omega)]; omega) (by omega),ZaR (i:=16+k) rfl (by omega),wi _ (by omega)];rfl) (by
  simp only[Lref03_schedule_s2];rw[if_neg (by omega)]
  rfl)
 exact this
theorem Zt7 (b:Arr 64):Zdi b=some (ZdH b):=by
 unfold Zdi;refine ZG (step:=ZcT b) (fun i=>((i:Int),Zir b i)) 16 (x:=some (ZdH b)) (fun i hi=>?_) ?_
 ·simp only[ZcT]
  rw[if_pos (by omega)]
  have h0:Zir b i=(Zir b i).put i (wd b i 0):=by
   have:=Arr.put_at (Zir b i) (i:=i) (by omega);rw[ZqI b i i (Nat.le_refl _)] at this;exact this.symm
  have:=ZG (step:=Zai (i:Int) b) (fun j=>((j:Int),(Zir b i).put i (wd b i j))) 4 (x:=some (.inl (((i+1:Nat):Int),(Zir b i).put i (wd b i 4)))) (fun j hj=>by
   simp only[Zai];rw[if_pos (by omega),YM (by omega),ZaR (i:=4 * i+j) (by rw[wi (4 * (i:Int)) (by omega),wi _ (by omega)]; omega) (by omega),Arr.at_put _ (by omega),Arr.put_put,Zu hj (by omega)];rfl) (by
   simp only[Zai];rw[if_neg (by omega)]
   simp only[Zbe,Zu hi (show(16:Nat)≤9223372036854775807 by omega)])
  have e:Zd (Zai (i:Int) b) (0,Zir b i)=_:=(congrArg (fun w=>Zd (Zai (i:Int) b) (0,w)) h0).trans this;rw[e];rfl
 ·simp only[ZcT]
  rw[if_neg (by omega),Zwc];rfl
abbrev bv (x:Int):BitVec 32:=BitVec.ofInt 32 x
theorem Zlf (x:Int):IntKind.u32.wrap x=x % 2 ^ 32:=by simp[IntKind.wrap,IntKind.signed,IntKind.bits]
theorem ZqJ (x:Int):bv (IntKind.u32.wrap x)=bv x:=by
 rw[Zlf];apply BitVec.eq_of_toNat_eq
 simp[BitVec.toNat_ofInt]
theorem Zxg (x y:Int):bv (bits .or .u32 x y)=bv x ||| bv y:=by
 show bv (IntKind.u32.wrap ((bv x ||| bv y).toNat:Nat))=_
 rw[ZqJ];generalize bv x ||| bv y=r
 show BitVec.ofInt 32 (r.toNat:Int)=r
 rw[BitVec.ofInt_natCast,BitVec.ofNat_toNat];simp
theorem Zt8 {x x' y y':Int}(h1:bv x=bv x') (h2:bv y=bv y'):bits .or .u32 x y=bits .or .u32 x' y' := by
 show IntKind.u32.wrap ((bv x ||| bv y).toNat:Nat)=IntKind.u32.wrap ((bv x' ||| bv y').toNat:Nat)
 rw[h1,h2]
theorem ZpI (x:Int) (k:Nat) (h:BitVec.ofInt 32 (2 ^ k)=BitVec.twoPow 32 k):bv (x * 2 ^ k)=bv x <<< k:=by
 rw[BitVec.shiftLeft_eq_mul_twoPow,← h];exact BitVec.ofInt_mul _ _
def wr (b:Arr 64) (i:Nat):Int:=bits .or .u32 (bits .or .u32 (bits .or .u32 (IntKind.u32.wrap ((IntKind.u32.wrap (b.at (4 * i))) * 16777216)) (IntKind.u32.wrap ((IntKind.u32.wrap (b.at (4 * i+1))) * 65536))) (IntKind.u32.wrap ((IntKind.u32.wrap (b.at (4 * i+2))) * 256))) (IntKind.u32.wrap (b.at (4 * i+3)))
theorem Zxh (b:Arr 64) (i:Nat):wr b i=wd b i 4:=by
 unfold wr;simp only[wd];refine Zt8 ?_ rfl;have e8:∀ x,bv (x * 256)=bv x <<< 8:=fun x=>ZpI x 8 (by decide)
 have e16:∀ x,bv (x * 65536)=bv x <<< 16:=fun x=>ZpI x 16 (by decide)
 have e24:∀ x,bv (x * 16777216)=bv x <<< 24:=fun x=>ZpI x 24 (by decide)
 simp only[Zxg,ZqJ,e8,e16,e24];have h0:(bv 0) <<< 8=0#32:=by decide
 simp only[h0,BitVec.shiftLeft_or_distrib,← BitVec.shiftLeft_add,BitVec.zero_or,Nat.add_zero]
theorem ZsO (b:Arr 64):ZbU b=some (ZdH b):=by
 unfold ZbU;refine ZG (step:=ZbH b) (fun i=>((i:Int),Zir b i)) 16 (x:=some (ZdH b)) (fun i hi=>?_) ?_
 ·simp only[ZbH]
  rw[if_pos (by omega),wi (4 * (i:Int)) (by omega),wi (4 * (i:Int)+1) (by omega),wi (4 * (i:Int)+2) (by omega),wi (4 * (i:Int)+3) (by omega),ZaR (i:=4 * i) (by omega) (by omega),ZaR (i:=4 * i+1) (by omega) (by omega),ZaR (i:=4 * i+2) (by omega) (by omega),ZaR (i:=4 * i+3) (by omega) (by omega),YM (by omega),Zu hi (by omega)];show some (Sum.inl (((i+1:Nat):Int),(Zir b i).put i (wr b i)))=_
  rw[Zxh];rfl
 ·simp only[ZbH]
  rw[if_neg (by omega),Zwd];rfl
theorem consts:Lref03_constants=some shaK:=by
 unfold Lref03_constants
 kernel_rfl
theorem inits:Lref03_Initial=some shaInitial:=by
 unfold Lref03_Initial
 kernel_rfl
abbrev St8:=Int×Int×Int×Int×Int×Int×Int×Int
abbrev ad (x y:Int):Int:=IntKind.u32.wrap (x+y)
def t1 (s:St8) (k w:Int):Int:=match s with
 | (a,b,c,d,e,f,g,h)=>ad (ad (ad (ad h (bits .xor .u32 (bits .xor .u32 (rr e 6) (rr e 11)) (rr e 25))) (bits .xor .u32 (bits .and .u32 e f) (bits .and .u32 (bits .xor .u32 4294967295 e) g))) k) w
def t2 (s:St8):Int:=match s with
 | (a,b,c,d,e,f,g,h)=>ad (bits .xor .u32 (bits .xor .u32 (rr a 2) (rr a 13)) (rr a 22)) (bits .xor .u32 (bits .xor .u32 (bits .and .u32 a b) (bits .and .u32 a c)) (bits .and .u32 b c))
def rnd (s:St8) (k w:Int):St8:=match s with
 | (a,b,c,d,e,f,g,h)=>(ad (t1 s k w) (t2 s),a,b,c,ad d (t1 s k w),e,f,g)
def Zkp (w:Arr 64) (s:St8):Nat→St8
 | 0=>s
 | i+1=>rnd (Zkp w s i) (shaK.at i) (w.at i)
def st0 (x:Arr 8):St8:=(x.at 0,x.at 1,x.at 2,x.at 3,x.at 4,x.at 5,x.at 6,x.at 7)
noncomputable def ZmS (x:Arr 8) (b:Arr 64):Arr 8:=match Zkp (ZdH b) (st0 x) 64 with
 | (a,b,c,d,e,f,g,h)=>((((((((zA 8).put 0 (IntKind.u32.wrap ((x.at 0)+a))).put 1 (IntKind.u32.wrap ((x.at 1)+b))).put 2 (IntKind.u32.wrap ((x.at 2)+c))).put 3 (IntKind.u32.wrap ((x.at 3)+d))).put 4 (IntKind.u32.wrap ((x.at 4)+e))).put 5 (IntKind.u32.wrap ((x.at 5)+f))).put 6 (IntKind.u32.wrap ((x.at 6)+g))).put 7 (IntKind.u32.wrap ((x.at 7)+h))
def ZlV (s:St8) (i:Nat):Int×Int×Int×Int×Int×Int×Int×Int×Int:=match s with
 | (a,b,c,d,e,f,g,h)=>(a,b,c,d,e,f,g,h,(i:Int))
theorem Zvl (x:Arr 8) (b:Arr 64):Zdj x b=some (ZmS x b):=by
 unfold Zdj;rw[Zt7,Za];refine ZG (step:=ZcU (ZdH b) x) (fun i=>ZlV (Zkp (ZdH b) (st0 x) i) i) 64 (x:=some (ZmS x b)) (fun i hi=>?_) ?_
 ·show _=some (Sum.inl (ZlV (rnd (Zkp (ZdH b) (st0 x) i) (shaK.at i) ((ZdH b).at i)) (i+1)))
  obtain⟨a,b',c,d,e,f,g,h⟩:=Zkp (ZdH b) (st0 x) i;simp only[ZlV,ZcU];refine(if_pos (show(i:Int)<64 by omega)).trans ?_;rw[ZiF,Za,ZiF,Za,ZiF,Za,YM hi,ZiF,Za,ZiF,Za,ZiF,Za,Zu hi (by omega)];rfl
 ·unfold ZmS
  obtain⟨a,b',c,d,e,f,g,h⟩:=Zkp (ZdH b) (st0 x) 64;simp only[ZlV,ZcU];exact(if_neg (by decide)).trans rfl
theorem Zt9 (x:Arr 8) (b:Arr 64):Xv x b=some (ZmS x b):=by
 unfold Xv;rw[ZsO,Za,consts,Za];refine ZG (step:=ZbI shaK (ZdH b) x) (fun i=>ZlV (Zkp (ZdH b) (st0 x) i) i) 64 (x:=some (ZmS x b)) (fun i hi=>?_) ?_
 ·show _=some (Sum.inl (ZlV (rnd (Zkp (ZdH b) (st0 x) i) (shaK.at i) ((ZdH b).at i)) (i+1)))
  obtain⟨a,b',c,d,e,f,g,h⟩:=Zkp (ZdH b) (st0 x) i;simp only[ZlV,ZbI];refine(if_pos (show(i:Int)<64 by omega)).trans ?_;rw[ZgH,Za,ZgH,Za,ZgH,Za,YM hi,ZgH,Za,ZgH,Za,ZgH,Za,Zu hi (by omega)];rfl
 ·unfold ZmS
  obtain⟨a,b',c,d,e,f,g,h⟩:=Zkp (ZdH b) (st0 x) 64;simp only[ZlV,ZbI];exact(if_neg (by decide)).trans rfl
def ZfW (n:Nat):Nat:=(64-(n+9) % 64) % 64
def ZpJ (n:Nat) (j:Nat):Int:=IntKind.u8.wrap ((IntKind.u64.wrap (8 * (n:Int))).fdiv (2 ^ (56-8 * j)))
def Zc7 (n:Nat):List Int:=(128 :: List.replicate (ZfW n) 0)++(List.range 8).map (ZpJ n)
theorem ZmT (n:Nat):(Zc7 n).length=9+ZfW n:=by simp[Zc7]; omega
theorem Zmg (n:Nat):ZfW n<64:=Nat.mod_lt _ (by omega)
theorem tm {a b:Nat}:((a:Int).tmod (b:Int))=((a % b:Nat):Int):=rfl
theorem Zxi {n:Nat}(hn:n≤1000000000):(IntKind.u64.wrap (64-((IntKind.u64.wrap ((n:Int)+9)).tmod 64))).tmod 64=(ZfW n:Int):=by
 have e1:IntKind.u64.wrap ((n:Int)+9)=((n+9:Nat):Int):=wu _ (by omega);have e2:((n+9:Nat):Int).tmod 64=(((n+9) % 64:Nat):Int):=rfl;have h:=Nat.mod_lt (n+9) (show 64 > 0 by omega);have e3:IntKind.u64.wrap (64-(((n+9) % 64:Nat):Int))=((64-(n+9) % 64:Nat):Int):=by rw[wu _ (by omega)]; omega
 rw[e1,e2,e3];rfl
theorem Zvm {n:Nat}(hn:n≤1000000000):Zh7 (n:Int)=some (Zc7 n):=by
 have hp:=Zxi hn;have hl:=Zmg n;unfold Zh7;rw[hp,wu (1+(ZfW n:Int)) (by omega),wu (9+(ZfW n:Int)) (by omega),Zj (by omega),Zj (by simp; omega)]
 have e0:(List.replicate ((1+(ZfW n:Int)).toNat) (0:Int)).set 0 128=128 :: List.replicate (ZfW n) 0:=by
  rw[show(1+(ZfW n:Int)).toNat=ZfW n+1 by omega,List.replicate_succ];rfl
 rw[e0]
 have:=ZG (step:=ZgB (n:Int)) (fun k=>((k:Int),(128 :: List.replicate (ZfW n) 0)++(List.range k).map (ZpJ n))) 8 (x:=some (Zc7 n)) (fun k hk=>by
  simp only[ZgB];rw[if_pos (by omega),wi (8 * (k:Int)) (by omega),wi (56-8 * (k:Int)) (by omega),Zj (by omega),Zj (by simp; omega),Zu hk (by omega)];have e:min (56-8 * (k:Int)).toNat 64=56-8 * k:=by omega
  rw[e,List.range_succ,List.map_append,← List.append_assoc];rfl) (by
  simp only[ZgB];rw[if_neg (by omega)]
  rfl)
 simpa using this
theorem Zua {n:Nat}(hn:n≤1000000000) (b:List Int) (hb:b.length≤1000):Zd (Zdk (n:Int)) (7,b)=some (b++(List.range 8).map (ZpJ n)):=by
 have:=ZG (step:=Zdk (n:Int)) (fun k=>(7-(k:Int),b++(List.range k).map (ZpJ n))) 8 (x:=some (b++(List.range 8).map (ZpJ n))) (fun k hk=>by
  simp only[Zdk];rw[if_pos (by omega),wi (8 * (7-(k:Int))) (by omega),Zj (by omega),Zj (by simp; omega),wi (7-(k:Int)-1) (by omega)];have e:min (8 * (7-(k:Int))).toNat 64=56-8 * k:=by omega
  rw[e,List.range_succ,List.map_append,← List.append_assoc,show 7-(k:Int)-1=7-((k+1:Nat):Int) by omega];rfl) (by
  simp only[Zdk];rw[if_neg (by omega)]
  rfl)
 simpa using this
theorem Zvn {n:Nat}(hn:n≤1000000000):Zf4 (n:Int)=some (Zc7 n):=by
 have hl:=Zmg n;unfold Zf4
 have key:∀ k,k≤ZfW n→(IntKind.u64.wrap ((IntKind.u64.wrap ((n:Int)+(IntKind.u64.wrap (((128 :: List.replicate k (0:Int)).length:Nat):Int))))+8)).tmod 64=(((n+k+9) % 64:Nat):Int):=by
  intro k hk;have e:(128 :: List.replicate k (0:Int)).length=k+1:=by simp
  rw[e,wu ((k+1:Nat):Int) (by omega),wu ((n:Int)+((k+1:Nat):Int)) (by omega),wu _ (by omega),show((n:Int)+((k+1:Nat):Int)+8)=((n+k+9:Nat):Int) by omega];exact tm
 have:=ZG (step:=ZeX (n:Int)) (fun k=>128 :: List.replicate k (0:Int)) (ZfW n) (x:=some (Zc7 n)) (fun k hk=>by
  simp only[ZeX];rw[key k (by omega),if_pos,Zj (by simp; omega)]
  ·rw[List.cons_append,← List.replicate_succ']
  ·have:¬ (n+k+9) % 64=0:=by unfold ZfW at hk; omega
   omega) (by
  simp only[ZeX];rw[key _ (Nat.le_refl _),if_neg]
  ·unfold ZeW
   rw[Zua hn _ (by simp; omega)];rfl
  ·have:(n+ZfW n+9) % 64=0:=by unfold ZfW; omega
   omega)
 simpa using this
def blk (y:List Int) (i:Nat):Arr 64:=ZnJ 64 (y.drop (64 * i))
noncomputable def hsh (y:List Int):Nat→Arr 8
 | 0=>shaInitial
 | i+1=>ZmS (hsh y i) (blk y i)
theorem ZsP {l:List Int}(h:64≤l.length):(zA 64).over l=ZnJ 64 l:=by
 unfold Arr.over ZnJ;rw[dif_pos h];have hz:=(zA 64).hl;have e:(zA 64).l.drop (min l.length 64)=[]:=List.drop_eq_nil_of_le (by omega);simp only[e,List.append_nil]
def byt (h:Arr 8) (k:Nat):Int:=IntKind.u8.wrap ((h.at (k / 4)).fdiv (2 ^ (24-(k % 4) * 8)))
def Zkq (h:Arr 8):Nat→Arr 32
 | 0=>zA 32
 | k+1=>(Zkq h k).put k (byt h k)
theorem Zvo (h:Arr 8):Zfe h=some (Zkq h 32):=by
 unfold Zfe;refine ZG (step:=ZgC h) (fun k=>((k:Int),Zkq h k)) 32 (x:=some (Zkq h 32)) (fun k hk=>?_) ?_
 ·simp only[ZgC]
  have e4:(k:Int).tmod 4=((k % 4:Nat):Int):=tm;have d4:(k:Int).tdiv 4=((k / 4:Nat):Int):=rfl;rw[if_pos (by omega),e4,d4,wi (((k / 4:Nat):Int)) (by omega),wi (((k % 4:Nat):Int) * 8) (by omega),wi (24-((k % 4:Nat):Int) * 8) (by omega),YM (by omega),Zj (by omega),YM hk,Zu hk (by omega)];have e:min (24-((k % 4:Nat):Int) * 8).toNat 32=24-(k % 4) * 8:=by omega
  rw[e];rfl
 ·simp only[ZgC]
  rw[if_neg (by omega)];rfl
theorem Zvp (h:Arr 8):ZgQ h=some (Zkq h 32):=by
 unfold ZgQ;refine ZG (step:=ZeY h) (fun i=>((i:Int),Zkq h (4 * i))) 8 (x:=some (Zkq h 32)) (fun i hi=>?_) ?_
 ·simp only[ZeY]
  rw[if_pos (by omega),wi (4 * (i:Int)) (by omega),wi (4 * (i:Int)+1) (by omega),wi (4 * (i:Int)+2) (by omega),wi (4 * (i:Int)+3) (by omega),YM hi,ZaR (i:=4 * i) (by omega) (by omega),ZaR (i:=4 * i+1) (by omega) (by omega),ZaR (i:=4 * i+2) (by omega) (by omega),ZaR (i:=4 * i+3) (by omega) (by omega),Zu hi (by omega)]
  have b0:byt h (4 * i)=IntKind.u8.wrap ((h.at i).fdiv 16777216):=by
   unfold byt;rw[show 4 * i / 4=i by omega,show 4 * i % 4=0 by omega];rfl
  have b1:byt h (4 * i+1)=IntKind.u8.wrap ((h.at i).fdiv 65536):=by
   unfold byt;rw[show(4 * i+1) / 4=i by omega,show(4 * i+1) % 4=1 by omega];rfl
  have b2:byt h (4 * i+2)=IntKind.u8.wrap ((h.at i).fdiv 256):=by
   unfold byt;rw[show(4 * i+2) / 4=i by omega,show(4 * i+2) % 4=2 by omega];rfl
  have b3:byt h (4 * i+3)=IntKind.u8.wrap (h.at i):=by
   unfold byt;rw[show(4 * i+3) / 4=i by omega,show(4 * i+3) % 4=3 by omega];show IntKind.u8.wrap ((h.at i).fdiv 1)=_
   rw[Int.fdiv_one]
  rw[show 4 * (i+1)=4 * i+3+1 by omega];simp only[Zkq];rw[b0,b1,b2,b3]
 ·simp only[ZeY]
  rw[if_neg (by omega)];rfl
noncomputable def ZaC (a:List Int):Arr 32:=Zkq (hsh (a++Zc7 a.length) ((a.length+(Zc7 a.length).length) / 64)) 32
theorem Zos (n:Nat):(n+(Zc7 n).length) % 64=0:=by
 rw[ZmT];unfold ZfW;omega
theorem Zvq {a b:List Int}(ha:a.length≤1000000000) (hb:b.length≤1000000000):Zh6 [a,b]=some (a++b):=by
 unfold Zh6
 rw[ZU (s' := (1,a)) (by
  simp only[ZgA];rw[if_pos (by simp),show(0:Int)=((0:Nat):Int) from rfl,Zi (by simp),Zj (by simp; omega)];simp[wi]),ZU (s' := (2,a++b)) (by
  simp only[ZgA];rw[if_pos (by simp),show(1:Int)=((1:Nat):Int) from rfl,Zi (by simp),Zj (by simp; omega)]
  simp[wi])]
 refine Y4 ?_;simp only[ZgA];rw[if_neg (by simp)];rfl
theorem ZqK {a:List Int}(h:a.length≤100000000):Zg6 a=some (ZaC a):=by
 have hp:=ZmT a.length;have hl:=Zmg a.length;have ht:=Zos a.length;unfold Zg6;rw[wu _ (by omega),Zvm (by omega),Za,Zvq (by omega) (by omega),Za];have hlen:(a++Zc7 a.length).length=a.length+(Zc7 a.length).length:=by simp
 have hd:((a++Zc7 a.length).length:Int).tdiv 64=(((a.length+(Zc7 a.length).length) / 64:Nat):Int):=by rw[hlen]; rfl
 refine ZG (step:=ZgD (a++Zc7 a.length)) (fun i=>((i:Int),hsh (a++Zc7 a.length) i)) ((a.length+(Zc7 a.length).length) / 64) (x:=some (ZaC a)) (fun i hi=>?_) ?_
 ·simp only[ZgD]
  rw[hd,wi (((a.length+(Zc7 a.length).length) / 64:Nat):Int) (by omega),if_pos (by omega),wi (64 * (i:Int)) (by omega),Zj (by omega),Zj (by omega),show(64 * (i:Int)).toNat=64 * i by omega,Zvl,Za,Zu hi (by omega)];rfl
 ·simp only[ZgD]
  rw[hd,wi (((a.length+(Zc7 a.length).length) / 64:Nat):Int) (by omega),if_neg (by omega),Zvo];rfl
theorem Zho {a:List Int}(h:a.length≤100000000):YZ a=some (ZaC a):=by
 have hp:=ZmT a.length;have hl:=Zmg a.length;have ht:=Zos a.length;unfold YZ;rw[Zj (by omega),wu _ (by omega),Zvn (by omega),Za,Zj (by omega),inits,Za];have hlen:(a++Zc7 a.length).length=a.length+(Zc7 a.length).length:=by simp
 refine ZG (step:=ZeZ a (Zc7 a.length)) (fun i=>((64 * i:Int),hsh (a++Zc7 a.length) i)) ((a.length+(Zc7 a.length).length) / 64) (x:=some (ZaC a)) (fun i hi=>?_) ?_
 ·simp only[ZeZ]
  rw[wi (64 * (i:Int)+64) (by omega),if_pos (by omega),Zj (by omega),show(64 * (i:Int)).toNat=64 * i by omega,ZsP (by rw[List.length_drop]; omega),Zt9,Za,show 64 * (i:Int)+64=64 * ((i+1:Nat):Int) by omega];rfl
 ·simp only[ZeZ]
  rw[wi _ (by omega),if_neg (by omega),Zvp];rfl
theorem ZpK {a:List Int}(h:a.length≤100000000):Zcp a=some (ZaC (ZaC a).l):=by
 have:=(ZaC a).hl;unfold Zcp;rw[ZqK h,Za,ZqK (by omega)];rfl
theorem ZnR {a:List Int}(h:a.length≤100000000):Za2 a=some (ZaC (ZaC a).l):=by
 have:=(ZaC a).hl;unfold Za2;rw[Zho h,Za,Zho (by omega)];rfl
section
set_option maxRecDepth 100000
theorem ZrH {a b:List Int}(h:a.length+b.length≤1000000000):ZO [a,b]=some (a++b):=by
 have e1:Zd (Yh [a,b]) (0,([]:List Int))=some (a++b):=by
  rw[ZU (s' := (1,a)) (by
   simp only[Yh];rw[if_pos (by simp),show(0:Int)=((0:Nat):Int) from rfl,Zi (by simp),Zj (by simp; omega)];simp[wi]),ZU (s' := (2,a++b)) (by
   simp only[Yh];rw[if_pos (by simp),show(1:Int)=((1:Nat):Int) from rfl,Zi (by simp),Zj (by simp; omega)]
   simp[wi])]
  refine Y4 ?_;simp only[Yh];rw[if_neg (by simp)];rfl
 unfold ZO
 rw[ZU (s' := ((a.length:Int),1)) (by
  simp only[YI];rw[if_pos (by simp),show(0:Int)=((0:Nat):Int) from rfl,Zi (by simp)];simp only[List.getElem_cons_zero];rw[wi (((0:Nat):Int)+a.length) (by omega),if_neg (by omega),YH,wi (((0:Nat):Int)+a.length) (by omega)];simp[wi]),ZU (s' := ((a.length:Int)+b.length,2)) (by
  simp only[YI];rw[if_pos (by simp),show(1:Int)=((1:Nat):Int) from rfl,Zi (by simp)];simp only[List.getElem_cons_succ,List.getElem_cons_zero];rw[wi ((a.length:Int)+b.length) (by omega),if_neg (by omega),YH,wi ((a.length:Int)+b.length) (by omega)]
  simp[wi])]
 refine Y4 ?_;simp only[YI];rw[if_neg (by simp),ZaB,Zj (by omega),e1]
noncomputable def ZgX (f p:Arr 32):Arr 32:=ZaC (ZaC (f.l++p.l)).l
theorem ZiO (f p:Arr 32):XO f p=some (ZgX f p):=by
 have h1:=f.hl; have h2:=p.hl;unfold XO;rw[ZrH (by omega),Za,ZpK (by simp[h1,h2])];rfl
def ZfX (f:Tapi_Filter):List Int×Int:=if (f.1<0∨4096<f.1)∨200000<(f.2.length:Int) then([],4) else(Zaz f.1++bytesB f.2,0)
theorem ZqL (f:Tapi_Filter):Zbh f=some (ZfX f):=by
 unfold Zbh ZfX;by_cases h:(f.1<0∨4096<f.1)∨200000<(f.2.length:Int)
 ·rw[if_pos h,if_pos h]
 ·have:=Zaw f.1
  rw[if_neg h,if_neg h,wu _ (by omega),ZjC (by omega) (by simp),Za,List.nil_append,ZlP (by omega)];rfl
theorem Zub (f:Tapi_Filter):(ZfX f).1.length≤300000:=by
 unfold ZfX;split
 ·simp
 ·have:=Zaw f.1
  have:=Zjs f.2;simp only[List.length_append];omega
noncomputable def Zd3 (f:Tapi_Filter):Arr 32:=if (ZfX f).2=0 then ZaC (ZaC (ZfX f).1).l else zA 32
theorem ZmU (f:Tapi_Filter):ZbK f=some (Zd3 f):=by
 have:=Zub f;unfold ZbK Zd3;rw[ZqL,Za];by_cases h:(ZfX f).2=0
 ·rw[if_neg (by simp[h]),if_pos h,ZpK (by omega)]
  rfl
 ·rw[if_pos h,if_neg h]
theorem Zkg {a b:List (Arr 32)}(h:a.length+b.length≤1000000):XR [a,b]=some (a++b):=by
 unfold XR
 rw[ZU (s' := (1,a)) (by
  simp only[ZaK];rw[if_pos (by simp),show(0:Int)=((0:Nat):Int) from rfl,Zi (by simp),Zj (by simp; omega)];simp[wi]),ZU (s' := (2,a++b)) (by
  simp only[ZaK];rw[if_pos (by simp),show(1:Int)=((1:Nat):Int) from rfl,Zi (by simp),Zj (by simp; omega)]
  simp[wi])]
 refine Y4 ?_;simp only[ZaK];rw[if_neg (by simp)];rfl
theorem ZsQ (p f:Arr 32):Xa p [f]=some [ZgX f p]:=by
 unfold Xa
 rw[ZU (s' := (1,ZgX f p,[ZgX f p])) (by
  simp only[Y2];rw[if_pos (by simp),show(0:Int)=((0:Nat):Int) from rfl,Zi (by simp)];simp only[List.getElem_cons_zero];rw[ZiO,Za,Zj (by simp)]
  simp[wi])]
 refine Y4 ?_;simp only[Y2];rw[if_neg (by simp)];rfl
theorem ZsR (x y:Arr 32):XX [x,y] [x]=some 1:=by
 have:Zd (Ys [x,y] [x]) 0=some (1:Int):=by
  rw[ZU (s' := (1:Int)) (by
   simp only[Ys]
   simp[idx,wi])]
  refine Y4 ?_;simp only[Ys];simp
 unfold XX YJ;rw[this];rfl
theorem ZsS (x y:Arr 32):YD ([],[]) [x] [y]=some (([x],[ZgX y (zA 32)]),0):=by
 unfold YD;rw[show YP ([],[])=some true by simp[YP],Za,if_neg (by simp),if_neg (by simp)];rw[if_neg (show ¬ (4096:Int)<IntKind.i64.wrap ((([]:List (Arr 32)).length:Int)+(([x]:List (Arr 32)).length:Int)) from by rw[wi _ (by simp)]; simp)];rw[Zkg (by simp),Za,Xk,if_pos (by simp),Za,ZsQ,Za,Zkg (by simp),Za];rfl
theorem sane21:Llaw21_sane=some true:=by
 unfold Llaw21_sane;rw[ZsS,Za,ZsR,Za,if_pos (by simp)];simp only[List.getElem?_cons_zero];rw[Za,ZiO,Za,Za];simp
end
section
set_option maxRecDepth 100000
noncomputable def hdrs:Arr 32→List (Arr 32)→List (Arr 32)
 | _,[]=>[]
 | p,f :: l=>ZgX f p :: hdrs (ZgX f p) l
noncomputable def ZdU (l:List (Arr 32)) (n:Nat):Arr 32:=if n=0 then zA 32 else l.getD (n-1) (zA 32)
theorem Zft (p:Arr 32) (l:List (Arr 32)):(hdrs p l).length=l.length:=by
 induction l generalizing p with
 | nil=>rfl
 | cons f l ih=>simp[hdrs,ih]
theorem Zmx (p:Arr 32) (l m:List (Arr 32)):hdrs p (l++m)=hdrs p l++hdrs ((hdrs p l).getLastD p) m:=by
 induction l generalizing p with
 | nil=>simp[hdrs]
 | cons f l ih =>
  simp only[List.cons_append,hdrs,ih]
  congr 2
  have:∀ (m:List (Arr 32)) (a b:Arr 32),(a :: m).getLastD b=m.getLastD a:=by
   intro m a b;cases m <;> rfl
  rw[this]
theorem ZsT (p:Arr 32) (l:List (Arr 32)) (n:Nat):(hdrs p l).take n=hdrs p (l.take n):=by
 induction n generalizing p l with
 | zero=>simp[hdrs]
 | succ n ih=>cases l <;> simp[hdrs,ih]
theorem Zuc (p:Arr 32) (l:List (Arr 32)) (h:l.length≤1000000):Xa p l=some (hdrs p l):=by
 unfold Xa
 have:=ZG (step:=Y2 l) (fun i=>((i:Int),(hdrs p (l.take i)).getLastD p,hdrs p (l.take i))) l.length (x:=some (hdrs p l)) (fun i hi=>by
  simp only[Y2];have hl:=Zft p (l.take i);have ht:=List.length_take_le i l;rw[if_pos (by omega),Zi hi,ZiO,Za,Zj (by omega),show List.take (i+1) l=List.take i l++[l[i]] from by simp,Zmx];simp only[hdrs,List.getLastD_concat];rw[wi _ (by omega)];rfl) (by
  simp only[Y2];rw[if_neg (by omega),List.take_length]
  rfl)
 simpa[hdrs] using this
theorem ZsU (c:Tapi_FilterChain) (n:Nat) (h:n≤c.2.length) (hn:c.2.length≤1000000):Xk c (n:Int)=some (ZdU c.2 n):=by
 unfold Xk ZdU;by_cases h0:n=0
 ·rw[if_pos (by omega),if_pos h0]
 ·rw[if_neg (by omega),if_neg h0,wi _ (by omega),show(n:Int)-1=((n-1:Nat):Int) from by omega,Zi (by omega),List.getD_eq_getElem?_getD,List.getElem?_eq_getElem (by omega)]
  rfl
theorem ZmV {c:Tapi_FilterChain}(h:c.1.length=c.2.length) (hn:c.1.length≤4096):YP c=some true:=by
 unfold YP;rw[decide_eq_true (by omega),decide_eq_true (by omega)];rfl
theorem Zwe {c:Tapi_FilterChain}{b f:List (Arr 32)}(h:c.1.length=c.2.length) (hl:b.length=f.length) (hn:c.1.length+b.length≤4096):YD c b f=some ((c.1++b,c.2++hdrs (ZdU c.2 c.2.length) f),0):=by
 unfold YD;rw[ZmV h (by omega),Za,if_neg (by simp),if_neg (by omega),if_neg (by rw[wi _ (by omega)]; omega),Zkg (by omega),Za,ZsU c _ (by omega) (by omega),Za,Zuc _ _ (by omega),Za,Zkg (by rw[Zft]; omega),Za]
theorem ZsV {c:Tapi_FilterChain}{f:Tapi_Filter}{n:Nat}(h:c.1.length=c.2.length) (hn:c.1.length≤4096) (hi:n<c.2.length):Yn c (n:Int) f=some (if ¬ (ZfX f).2=0 then(ZfX f).2 else if ZgX (Zd3 f) (ZdU c.2 n)=c.2[n] then 0 else 200):=by
 unfold Yn;rw[ZmV h hn,Za,if_neg (by simp),if_neg (by omega),ZqL,Za];by_cases he:(ZfX f).2=0
 ·rw[if_neg (by simp[he]),if_neg (by simp[he]),ZmU,Za,ZsU c n (by omega) (by omega),Za,ZiO,Za,Zi hi]
  by_cases h2:ZgX (Zd3 f) (ZdU c.2 n)=c.2[n]
  ·rw[if_neg (by simp[h2]),if_pos h2]
  ·rw[if_pos h2,if_neg h2]
 ·rw[if_pos he,if_pos he]
theorem Zvr {c:Tapi_FilterChain}{f:Tapi_Filter}{n:Nat}(h:c.1.length=c.2.length) (hn:c.1.length≤4096) (hi:c.2.length≤n):Yn c (n:Int) f=some 5:=by
 unfold Yn;rw[ZmV h hn,Za,if_neg (by simp),if_pos (by omega)]
end
section
set_option maxRecDepth 100000
theorem Zud (l:List (Arr 32)):ZdU l l.length=l.getLastD (zA 32):=by
 unfold ZdU;cases l with
 | nil=>rfl
 | cons x l=>rw[if_neg (by simp)]; simp[List.getD_eq_getElem?_getD,List.getLastD,List.getLast_eq_getElem]
theorem ZrI (l:List (Arr 32)) (n:Nat) (h:n≤l.length):(hdrs (zA 32) l).take n++hdrs (ZdU ((hdrs (zA 32) l).take n) n) (l.drop n)=hdrs (zA 32) l:=by
 have hl:((hdrs (zA 32) l).take n).length=n:=by rw[List.length_take,Zft]; omega
 have e:ZdU ((hdrs (zA 32) l).take n) n=((hdrs (zA 32) l).take n).getLastD (zA 32):=by
  have:=Zud ((hdrs (zA 32) l).take n)
  rwa[hl] at this
 rw[e,ZsT,← Zmx,List.take_append_drop]
theorem Zue (l:List (Arr 32)){i n:Nat}(h:i≤n) (hn:n≤l.length):ZdU (l.take n) i=ZdU l i:=by
 unfold ZdU;by_cases h0:i=0
 ·rw[if_pos h0,if_pos h0]
 ·rw[if_neg h0,if_neg h0,List.getD_eq_getElem?_getD,List.getD_eq_getElem?_getD,List.getElem?_take_of_lt (by omega)]
theorem Zuf (l:List (Arr 32)) (n:Nat) (h:n<l.length):(hdrs (zA 32) l)[n]'(by rw[Zft]; exact h)=ZgX l[n] (ZdU (hdrs (zA 32) l) n):=by
 have hl:=Zft (zA 32) l;have e:=ZrI l n (by omega);have hk:((hdrs (zA 32) l).take n).length=n:=by rw[List.length_take]; omega
 have e2:(hdrs (zA 32) l)[n]? = some (ZgX l[n] (ZdU ((hdrs (zA 32) l).take n) n)):=by
  generalize ZdU ((hdrs (zA 32) l).take n) n=p at e ⊢;have:(hdrs (zA 32) l)[n]? = ((hdrs (zA 32) l).take n++hdrs p (l.drop n))[n]? := by rw[e]
  rw[this,List.getElem?_append_right (by omega),hk,Nat.sub_self,List.drop_eq_getElem_cons h];rfl
 rw[Zue _ (Nat.le_refl n) (by omega)] at e2;exact Option.some.inj ((List.getElem?_eq_getElem _).symm.trans e2)
end
section
open Go.Sort
theorem Zmh (x y:Int):YW x y=some (ltInt x y):=by simp[YW,XN,ltInt]
theorem gA {d:Array Int}{i:Nat}(h:i<d.size):d.toList[i]? = some d[i]! := by
 rw[getElem!_pos d i h];simp[h]
theorem gB {β:Type}{d:Array Int}{i:Nat}{f:Int→Option β}(h:i<d.size):(d.toList[i]?).bind f=f d[i]! := by rw[gA h]; rfl
theorem iB {β:Type}{d:Array Int}{i:Nat}{f:Nat→Option β}(h:i<d.size):(inA d.toList.length (i:Int)).bind f=f i:=YM (by simpa using h)
theorem iB1 {β:Type}{d:Array Int}{i j:Nat}{x:Int}{f:Nat→Option β}(h:i<d.size):(inA (d.toList.set j x).length (i:Int)).bind f=f i:=YM (by simpa using h)
theorem swpL (d:Array Int) (i j:Nat):(d.toList.set i d[j]!).set j d[i]! = (swp d i j).toList:=by simp[swp]
theorem sB {β:Type}(x:Bool) (f:Bool→Option β):(some x).bind f=f x:=rfl
theorem wI (n:Nat) (h:n<9223372036854775808):IntKind.i64.wrap (n:Int)=(n:Int):=wi _ (by omega)
theorem wS {i:Nat}(h:i<9223372036854775807):IntKind.i64.wrap ((i:Int)+1)=((i+1:Nat):Int):=by rw[wi _ (by omega)]; omega
theorem wP {i:Nat}(h:i<9223372036854775807):IntKind.i64.wrap (((i+1:Nat):Int)-1)=(i:Int):=by rw[wi _ (by omega)]; omega
theorem ZgY (lt:Int→Int→Bool) (a:Nat):∀ (j:Nat) (d:Array Int),(insInner lt a j d).size=d.size
 | 0,d=>by rw[insInner]
 | j+1,d=>by
  rw[insInner];split
  ·rw[ZgY lt a j,size_swp]
  ·rfl
theorem Zot (a:Nat) (i:Int):∀ (j:Nat) (d:Array Int),j<d.size→d.size<4611686018427387904→Zd (ZF (a:Int) i) ((j:Int),d.toList)=ZM i (insInner ltInt a j d).toList
 | 0,d,hj,hs=>by
  rw[insInner];refine Y4 ?_;have h:¬ ((a:Int)<((0:Nat):Int)):=by omega
  simp only[ZF,if_neg h,sB,h,false_and,if_false]
 | j+1,d,hj,hs=>by
  have hj':j<d.size:=by omega
  rw[insInner];by_cases h:a<j+1
  ·have hc:(a:Int)<((j+1:Nat):Int):=by omega
   by_cases hl:ltInt d[j+1]! d[j]! = true
   ·rw[ZU (s' := ((j:Int),(swp d (j+1) j).toList)),Zot a i j _ (by rw[size_swp]; exact hj') (by rw[size_swp]; exact hs),if_pos (by simp[h,hl])]
    simp only[ZF,if_pos hc,hc,true_and,wP (show j<9223372036854775807 by omega),iB hj,iB hj',gB hj,gB hj',Zmh,sB,hl,if_true,iB1 hj',swpL]
   ·rw[if_neg (by simp[hl])]
    refine Y4 ?_;simp only[ZF,if_pos hc,hc,true_and,wP (show j<9223372036854775807 by omega),iB hj,iB hj',gB hj,gB hj',Zmh,sB,(by simpa using hl:ltInt d[j+1]! d[j]! = false),if_true,if_false,Bool.false_eq_true]
  ·rw[if_neg (by simp[h])]
   refine Y4 ?_;have hc:¬ (a:Int)<((j+1:Nat):Int):=by omega
   simp only[ZF,if_neg hc,sB,hc,false_and,if_false]
theorem ZsW (a b:Nat) (l0:List Int):∀ (n i:Nat) (d:Array Int),b-i=n→b≤d.size→d.size<4611686018427387904→d.size=l0.length→Zd (Z3 (b:Int) (a:Int) l0) ((i:Int),d.toList)=some (insOuter ltInt a b i d).toList:=by
 intro n;induction n with
 | zero =>
  intro i d h hb hs h0;rw[insOuter,if_neg (by omega)];refine ZbB ?_;simp only[Z3,if_neg (show ¬ (i:Int)<(b:Int) by omega)];rw[Zj (by simpa using h0)]
 | succ n ih =>
  intro i d h hb hs h0;rw[insOuter,if_pos (by omega),← ih (i+1) _ (by omega) (by rw[ZgY]; exact hb) (by rw[ZgY]; exact hs) (by rw[ZgY]; exact h0)];refine ZU ?_;simp only[Z3,if_pos (show(i:Int)<(b:Int) by omega)];rw[Zot a _ i d (by omega) hs,ZM,wS (by omega)]
theorem Zwf (d:Array Int) (a b:Nat) (hb:b≤d.size) (ha:a≤b) (hs:d.size<4611686018427387904):Zt d.toList (a:Int) (b:Int)=some (insertionSort ltInt d a b).toList:=by
 rw[Zt,wS (by omega),ZsW a b d.toList _ (a+1) d rfl hb hs (by simp)];rfl
end
end Go.Lc
