import Derived.Test.YthpkpciceodioaaGreatDoorLcG3
import Derived.Test.YthpkpciceodioaaGreatDoorLcG1
import Derived.KernelRfl
import Derived.Test.YthpkpciceodioaaGreatDoorLcG2
import Derived.Sort.AssemblyPlain
namespace Go.Lc
open Go.RowKit
open Go.Av
set_option linter.unusedVariables false
set_option linter.unusedSimpArgs false
def inB (x:Tapi_Input):List Int:=Zjw x.1++Yi (IntKind.u64.wrap x.2.1) 4
@[simp] theorem ZwC (x:Tapi_Input):(inB x).length=40:=by simp[inB]
def Zgp (o:Tapi_Output):List Int:=Yi (IntKind.u64.wrap o.1) 8++bytesB o.2
def ZmH (x:Tapi_Input):List Int:=ZaU x.2.2.length++x.2.2.flatMap bytesB
def Zk1 (t:Tapi_Tx):List Int:=Yi (IntKind.u64.wrap t.1) 4++ZaU t.2.1.length
def Xb (t:Tapi_Tx) (w:Bool):List Int:=Zk1 t++t.2.1.flatMap inB++ZaU t.2.2.1.length++t.2.2.1.flatMap Zgp++Yi (IntKind.u64.wrap t.2.2.2) 4++(if w then t.2.1.flatMap ZmH else[])
def ZaA (t:Tapi_Tx):Nat:=100+(t.2.1.map fun x=>60+(x.2.2.map fun s=>20+s.length).sum).sum+(t.2.2.1.map fun o=>60+o.2.length).sum
theorem Zlx {α β:Type}(f:α→List β) (g:α→Nat) (h:∀ a,(f a).length≤g a) (l:List α):(l.flatMap f).length≤(l.map g).sum:=by
 induction l with
 | nil=>simp
 | cons a l ih =>
  simp only[List.flatMap_cons,List.length_append,List.map_cons,List.sum_cons];have:=h a;omega
theorem Zl4 {α:Type}(g:α→Nat){l:List α}{a:α}(h:a∈l):g a≤(l.map g).sum:=by
 induction l with
 | nil=>simp at h
 | cons b l ih =>
  simp only[List.map_cons,List.sum_cons];rcases List.mem_cons.1 h with rfl | h
  ·omega
  ·have:=ih h
   omega
theorem ZkM {α:Type}(g:α→Nat) (c:Nat) (h:∀ a,c≤g a) (l:List α):c * l.length≤(l.map g).sum:=by
 induction l with
 | nil=>simp
 | cons a l ih =>
  have:=h a;simp only[List.map_cons,List.sum_cons,List.length_cons,Nat.mul_add];omega
theorem ZwD (x:Tapi_Input):(ZmH x).length≤9+(x.2.2.map fun s=>20+s.length).sum:=by
 have h1:=ZbS x.2.2.length;have h2:=Zlx bytesB (fun s=>20+s.length) (fun s=>by have:=Zl2 s; omega) x.2.2;simp only[ZmH,List.length_append];omega
theorem ZwE (o:Tapi_Output):(Zgp o).length≤20+o.2.length:=by
 have:=Zl2 o.2;simp only[Zgp,List.length_append,Zeb];omega
section
variable {t:Tapi_Tx}{w:Bool}
def Zgq (t:Tapi_Tx) (i:Nat):List Int:=Zk1 t++(t.2.1.take i).flatMap inB
def Zgr (t:Tapi_Tx) (i:Nat):List Int:=Zk1 t++t.2.1.flatMap inB++ZaU t.2.2.1.length++(t.2.2.1.take i).flatMap Zgp
def Zfc (t:Tapi_Tx) (i:Nat):List Int:=Zk1 t++t.2.1.flatMap inB++ZaU t.2.2.1.length++t.2.2.1.flatMap Zgp++Yi (IntKind.u64.wrap t.2.2.2) 4++(t.2.1.take i).flatMap ZmH
theorem ZoO (t:Tapi_Tx):(t.2.1.flatMap inB).length+(t.2.1.flatMap ZmH).length≤(t.2.1.map fun x=>60+(x.2.2.map fun s=>20+s.length).sum).sum:=by
 induction t.2.1 with
 | nil=>simp
 | cons x l ih =>
  have:=ZwD x;simp only[List.flatMap_cons,List.length_append,List.map_cons,List.sum_cons,ZwC];omega
theorem ZqK (t:Tapi_Tx):(t.2.2.1.flatMap Zgp).length≤(t.2.2.1.map fun o=>60+o.2.length).sum:=Zlx Zgp _ (fun o=>by have:=ZwE o; omega) _
theorem ZmI (t:Tapi_Tx):(Zk1 t).length≤13:=by
 have:=ZbS t.2.1.length;simp only[Zk1,List.length_append,Zeb];omega
theorem ZoP (i:Nat):(Zgq t i).length+50≤ZaA t:=by
 have h1:=ZmI t;have h2:=ZdW t.2.1 inB i;have h3:=ZoO t;simp only[Zgq,ZaA,List.length_append];omega
theorem Zly (i:Nat):(Zgr t i).length+50≤ZaA t:=by
 have h1:=ZmI t;have h2:=ZdW t.2.2.1 Zgp i;have h3:=ZoO t;have h4:=ZqK t;have h5:=ZbS t.2.2.1.length;simp only[Zgr,ZaA,List.length_append];omega
theorem ZoQ (i:Nat):(Zfc t i).length+50≤ZaA t:=by
 have h1:=ZmI t;have h2:=ZdW t.2.1 ZmH i;have h3:=ZoO t;have h4:=ZqK t;have h5:=ZbS t.2.2.1.length;simp only[Zfc,ZaA,List.length_append,Zeb];omega
theorem Zi3 (t:Tapi_Tx):t.2.1.length≤ZaA t:=by
 have:=ZkM (fun x:Tapi_Input=>60+(x.2.2.map fun s=>20+s.length).sum) 60 (fun x=>by omega) t.2.1;unfold ZaA;omega
theorem Zps (t:Tapi_Tx):t.2.2.1.length≤ZaA t:=by
 have:=ZkM (fun o:Tapi_Output=>60+o.2.length) 60 (fun x=>by omega) t.2.2.1;unfold ZaA;omega
theorem ZrQ {x:Tapi_Input}(h:x∈t.2.1):60+(x.2.2.map fun s=>20+s.length).sum≤ZaA t:=by
 have:=Zl4 (fun x:Tapi_Input=>60+(x.2.2.map fun s=>20+s.length).sum) h;unfold ZaA;omega
theorem ZqL {o:Tapi_Output}(h:o∈t.2.2.1):60+o.2.length≤ZaA t:=by
 have:=Zl4 (fun o:Tapi_Output=>60+o.2.length) h;unfold ZaA;omega
theorem Zk2 {x:Tapi_Input}(h:x∈t.2.1):x.2.2.length≤ZaA t:=by
 have h1:=ZrQ h;have:=ZkM (fun s:List Int=>20+s.length) 20 (fun x=>by omega) x.2.2;omega
theorem ZqM {x:Tapi_Input}(h:x∈t.2.1){s:List Int}(hs:s∈x.2.2):20+s.length≤ZaA t:=by
 have h1:=ZrQ h;have:=Zl4 (fun s:List Int=>20+s.length) hs;omega
end
section
variable {t:Tapi_Tx}{w:Bool}
theorem ZmJ {i:Nat}(h:i<t.2.1.length):Zfc t (i+1)=Zfc t i++ZaU (t.2.1[i]).2.2.length++(t.2.1[i]).2.2.flatMap bytesB:=by
 simp only[Zfc,ZaT ZmH h,ZmH,List.append_assoc]
theorem ZqN {i:Nat}(h:i<t.2.1.length):(Zfc t i++ZaU (t.2.1[i]).2.2.length).length+((t.2.1[i]).2.2.flatMap bytesB).length+50≤ZaA t:=by
 have:=ZoQ (t:=t) (i+1);rw[ZmJ h] at this;simp only[List.length_append] at this ⊢;omega
theorem ZrR {x:Tapi_Input}{j:Nat}(h:j<x.2.2.length):((x.2.2.take j).flatMap bytesB).length+(bytesB x.2.2[j]).length≤(x.2.2.flatMap bytesB).length:=by
 have:=ZdW x.2.2 bytesB (j+1);rw[ZaT bytesB h] at this;simpa using this
theorem ZwF (hM:ZaA t≤1000000000000){i:Nat}(h:i<t.2.1.length){q:List Int}(hq:q.length+((t.2.1[i]).2.2.flatMap bytesB).length+50≤ZaA t) :
  Zd (Zdv t.2.1[i] (i:Int)) (0,q)=some (.inl (((i+1:Nat):Int),q++(t.2.1[i]).2.2.flatMap bytesB)):=by
 have hmem:=List.getElem_mem h;have hwl:=Zk2 hmem;have hil:=Zi3 t;generalize t.2.1[i]=x at hq hmem hwl ⊢
 have:=ZM (step:=Zdv x (i:Int)) (fun j=>((j:Int),q++(x.2.2.take j).flatMap bytesB)) x.2.2.length (x:=some (.inl (((i+1:Nat):Int),q++x.2.2.flatMap bytesB))) (fun j hj=>by
  simp only[Zdv];have h1:=ZrR hj;have h2:=ZqM hmem (List.getElem_mem hj);rw[if_pos (by omega),Zi hj,Zpp (by simp; omega),Za,Zj (by simp only[List.length_append,List.nil_append]; omega),Zp hj (by omega),ZaT bytesB hj];simp) (by
  simp only[Zdv];rw[if_neg (by omega)]
  simp only[Zb9,List.take_length,Zp h (by omega)])
 simpa using this
theorem ZyU (hM:ZaA t≤1000000000000):Za2 t (Zgr t t.2.2.1.length) w=some (Xb t w):=by
 have hil:=Zi3 t;have h2:=Zly (t:=t) t.2.2.1.length;unfold Za2;rw[Zix (by simp),Za,Zj (by simp; omega)];have he:Zgr t t.2.2.1.length++([]++Yi (IntKind.u64.wrap t.2.2.2) 4)=Zfc t 0:=by simp[Zgr,Zfc]
 rw[he];cases w with
 | false=>simp[Xb,Zfc]
 | true =>
  rw[if_neg (by simp)]
  have:=ZM (step:=Zfh t) (fun i=>((i:Int),Zfc t i)) t.2.1.length (x:=some (Xb t true)) (fun i hi=>by
   have h3:=ZqN hi;have h5:=Zk2 (List.getElem_mem hi);simp only[Zfh];rw[if_pos (by omega),Zi hi,ZfW (by omega),Zlw (by omega) (by simp),Za,Zj (by simp only[List.length_append,List.nil_append] at h3 ⊢; omega),List.nil_append,ZwF hM hi h3,ZmJ hi]) (by
   simp only[Zfh];rw[if_neg (by omega)]
   simp[Zb8,Zfc,Xb])
  simpa using this
theorem Zpt {i:Nat}(h:i<t.2.2.1.length):Zgr t (i+1)=Zgr t i++Yi (IntKind.u64.wrap (t.2.2.1[i]).1) 8++bytesB (t.2.2.1[i]).2:=by
 simp only[Zgr,ZaT Zgp h,Zgp,List.append_assoc]
theorem ZyV (hM:ZaA t≤1000000000000):Za3 t (Zgq t t.2.1.length) w=some (Xb t w):=by
 have hol:=Zps t;have h2:=Zly (t:=t) 0;have h1:=ZbS t.2.2.1.length;have he:Zgq t t.2.1.length++ZaU t.2.2.1.length=Zgr t 0:=by simp[Zgq,Zgr]
 unfold Za3;rw[ZfW (by omega),Zlw (by omega) (by simp),Za,List.nil_append,Zj (by rw[← List.length_append,he]; omega),he]
 have:=ZM (step:=Zfi t w) (fun i=>((i:Int),Zgr t i)) t.2.2.1.length (x:=some (Xb t w)) (fun i hi=>by
  have h3:=Zly (t:=t) (i+1);have h4:=ZqL (List.getElem_mem hi);rw[Zpt hi] at h3 ⊢;simp only[List.length_append,Zeb] at h3;simp only[Zfi];rw[if_pos (by omega),Zi hi,Zt2 (by simp),Za,Zj (by simp; omega),Zpp (by simp; omega),Za,Zj (by simp; omega),Zp hi (by omega)];simp) (by
  simp only[Zfi]
  rw[if_neg (by omega),ZyU hM])
 simpa using this
theorem Zpu {i:Nat}(h:i<t.2.1.length):Zgq t (i+1)=Zgq t i++Zjw (t.2.1[i]).1++Yi (IntKind.u64.wrap (t.2.1[i]).2.1) 4:=by
 simp only[Zgq,ZaT inB h,inB,List.append_assoc]
theorem Zpv (hM:ZaA t≤1000000000000):Ze0 t w=some (Xb t w):=by
 have hil:=Zi3 t;have h1:=ZbS t.2.1.length;have he:Yi (IntKind.u64.wrap t.1) 4++ZaU t.2.1.length=Zgq t 0:=by simp[Zgq,Zk1]
 unfold Ze0;rw[Zix (by simp),Za,ZfW (by omega),Zlw (by omega) (by simp),Za,List.nil_append,List.nil_append,Zj (by simp; omega),he]
 have:=ZM (step:=Zfj t w) (fun i=>((i:Int),Zgq t i)) t.2.1.length (x:=some (Xb t w)) (fun i hi=>by
  have h3:=ZoP (t:=t) (i+1);rw[Zpu hi] at h3 ⊢;simp only[List.length_append,Zeb,Zl3] at h3;simp only[Zfj];rw[if_pos (by omega),Zi hi,ZqJ,Za,Zj (by simp; omega),Zix (by simp),Za,Zj (by simp; omega),Zp hi (by omega)];simp) (by
  simp only[Zfj]
  rw[if_neg (by omega),ZyV hM])
 simpa using this
theorem ZoR {o:Tapi_Output}(h:o.2.length≤140737488354000):ZdP o=some (Zgp o):=by
 unfold ZdP;rw[ZwB (by simp),Za,Zpq (by simp; omega)];rfl
theorem Zvh (hM:ZaA t≤1000000000000){i:Nat}(h:i<t.2.1.length){q:List Int}(hq:q.length+((t.2.1[i]).2.2.flatMap bytesB).length+50≤ZaA t) :
  Zd (Zbg t.2.1[i] (i:Int)) (0,q)=some (.inl (((i+1:Nat):Int),q++(t.2.1[i]).2.2.flatMap bytesB)):=by
 have hmem:=List.getElem_mem h;have hwl:=Zk2 hmem;have hil:=Zi3 t;generalize t.2.1[i]=x at hq hmem hwl ⊢
 have:=ZM (step:=Zbg x (i:Int)) (fun j=>((j:Int),q++(x.2.2.take j).flatMap bytesB)) x.2.2.length (x:=some (.inl (((i+1:Nat):Int),q++x.2.2.flatMap bytesB))) (fun j hj=>by
  simp only[Zbg];have h1:=ZrR hj;have h2:=ZqM hmem (List.getElem_mem hj);rw[if_pos (by omega),Zi hj,Zpq (by simp only[List.length_append]; omega),Za,Zp hj (by omega),ZaT bytesB hj];simp) (by
  simp only[Zbg];rw[if_neg (by omega)]
  simp only[Zap,List.take_length,Zp h (by omega)])
 simpa using this
theorem ZxI (hM:ZaA t≤1000000000000):XF (Zgr t t.2.2.1.length) t w=some (Xb t w):=by
 have hil:=Zi3 t;have h2:=Zly (t:=t) t.2.2.1.length;unfold XF;rw[ZdJ (by omega),Za];have he:Zgr t t.2.2.1.length++Yi (IntKind.u64.wrap t.2.2.2) 4=Zfc t 0:=by simp[Zgr,Zfc]
 rw[he];cases w with
 | false =>
  by_cases h0:(0:Int)<t.2.1.length
  ·refine Zag ?_
   simp only[Zaq];rw[if_pos h0,show(0:Int)=((0:Nat):Int) from rfl,Zi (by omega)];simp[YS,Xb,Zfc]
  ·refine Zag ?_
   simp only[Zaq];rw[if_neg h0];simp[YS,Xb,Zfc]
 | true =>
  have:=ZM (step:=Zaq t true) (fun i=>((i:Int),Zfc t i)) t.2.1.length (x:=some (Xb t true)) (fun i hi=>by
   have h3:=ZqN hi;have h4:=ZoQ (t:=t) i;have h5:=Zk2 (List.getElem_mem hi);simp only[Zaq];rw[if_pos (by omega),Zi hi,if_neg (by simp),ZfW (by omega),ZkL (by omega) (by omega),Za,Zvh hM hi h3,ZmJ hi]) (by
   simp only[Zaq];rw[if_neg (by omega)]
   simp[YS,Zfc,Xb])
  simpa using this
theorem ZxJ (hM:ZaA t≤1000000000000):XG (Zgq t t.2.1.length) t w=some (Xb t w):=by
 have hol:=Zps t;have h0:=ZoP (t:=t) t.2.1.length;have he:Zgq t t.2.1.length++ZaU t.2.2.1.length=Zgr t 0:=by simp[Zgq,Zgr]
 unfold XG;rw[ZfW (by omega),ZkL (by omega) (by omega),Za,he]
 have:=ZM (step:=Zc2 t w) (fun i=>((i:Int),Zgr t i)) t.2.2.1.length (x:=some (Xb t w)) (fun i hi=>by
  have h3:=Zly (t:=t) (i+1);have h4:=ZqL (List.getElem_mem hi);rw[Zpt hi] at h3 ⊢;simp only[List.length_append,Zeb] at h3;simp only[Zc2];rw[if_pos (by omega),Zi hi,ZoR (by omega),Za,Zj (by simp only[Zgp,List.length_append,Zeb]; omega),Zp hi (by omega)];simp[Zgp]) (by
  simp only[Zc2]
  rw[if_neg (by omega),ZxI hM])
 simpa using this
theorem Zke (hM:ZaA t≤1000000000000):Zai t w=some (Xb t w):=by
 have hil:=Zi3 t;have he:Yi (IntKind.u64.wrap t.1) 4++ZaU t.2.1.length=Zgq t 0:=by simp[Zgq,Zk1]
 unfold Zai;rw[ZdJ (by simp),Za,ZfW (by omega),ZkL (by omega) (by simp),Za,List.nil_append,he]
 have:=ZM (step:=Zc3 t w) (fun i=>((i:Int),Zgq t i)) t.2.1.length (x:=some (Xb t w)) (fun i hi=>by
  have h3:=ZoP (t:=t) (i+1);rw[Zpu hi] at h3 ⊢;simp only[List.length_append,Zeb,Zl3] at h3;simp only[Zc3];rw[if_pos (by omega),Zi hi,Zpr,Za,Zj (by simp; omega),ZdJ (by simp; omega),Za,Zp hi (by omega)]) (by
  simp only[Zc3]
  rw[if_neg (by omega),ZxJ hM])
 simpa using this
def Zi4 (t:Tapi_Tx):Prop:=t.2.1.length≤64∧t.2.2.1.length≤64∧(∀ o∈t.2.2.1,0≤o.1∧o.2.length≤520)∧∀ x∈t.2.1,x.2.2.length≤32∧∀ s∈x.2.2,s.length≤520
noncomputable def Ys (t:Tapi_Tx):Bool:=by classical exact decide (Zi4 t∧(Xb t true).length≤20000)
theorem ZkN {α:Type}(g:α→Nat) (c:Nat){l:List α}(h:∀ a∈l,g a≤c):(l.map g).sum≤c * l.length:=by
 induction l with
 | nil=>simp
 | cons a l ih =>
  have h1:=h a (by simp);have h2:=ih fun b hb=>h b (by simp[hb])
  simp only[List.map_cons,List.sum_cons,List.length_cons,Nat.mul_add];omega
theorem Zp0 (h:Zi4 t):ZaA t≤3000000:=by
 obtain⟨h1,h2,h3,h4⟩:=h
 have e1:=ZkN (fun x:Tapi_Input=>60+(x.2.2.map fun s=>20+s.length).sum) 20000 (l:=t.2.1) (fun x hx=>by
  obtain⟨g1,g2⟩:=h4 x hx;have:=ZkN (fun s:List Int=>20+s.length) 540 (l:=x.2.2) (fun s hs=>by have:=g2 s hs; omega);have:=Nat.mul_le_mul_left 540 g1
  omega)
 have e2:=ZkN (fun o:Tapi_Output=>60+o.2.length) 600 (l:=t.2.2.1) (fun o ho=>by have:=(h3 o ho).2; omega);have:=Nat.mul_le_mul_left 20000 h1;have:=Nat.mul_le_mul_left 600 h2;unfold ZaA;omega
theorem Zl5 (h:Ys t=true):ZaA t≤1000000000000:=by
 classical
 unfold Ys at h;simp only[decide_eq_true_eq] at h;have:=Zp0 h.1;omega
end
section
theorem ZwG {t:Tapi_Tx}{w:Bool}:(Xb t w).length≤ZaA t:=by
 have h1:=ZoQ (t:=t) t.2.1.length
 have h2:(Xb t w).length≤(Zfc t t.2.1.length).length:=by
  cases w <;> simp[Xb,Zfc]
 omega
theorem ZqO {x:Tapi_Input}{i n:Nat}(hi:i<n) (hn:n≤64) (hw:x.2.2.length≤32):Zd (Zd1 x (i:Int)) 0=(if ∃ s∈x.2.2,520<s.length then some (.inr false) else some (.inl ((i+1:Nat):Int))):=by
 refine Zea (step:=Zd1 x (i:Int)) (fun j=>(j:Int)) x.2.2 (fun s=>520<s.length) (some (.inr false)) (some (.inl ((i+1:Nat):Int))) (fun j hj hb=>?_) (fun j hj hb=>?_) ?_ rfl
 ·simp only[Zd1]
  rw[if_pos (by omega),Zi hj,if_neg (by omega),Zp hj (by omega)]
 ·simp only[Zd1]
  rw[if_pos (by omega),Zi hj,if_pos (by omega)];rfl
 ·simp only[Zd1]
  rw[if_neg (by omega)];simp only[ZfG,Zp hi (by omega)]
theorem ZrS (t:Tapi_Tx):ZhF t=some (Ys t):=by
 classical
 unfold ZhF Ys;by_cases h0:64<t.2.1.length∨64<t.2.2.1.length
 ·rw[if_pos (by omega)]
  have:¬ Zi4 t:=fun h=>by have:=h.1; have:=h.2.1; omega
  simp[this]
 ·rw[if_neg (by omega)]
  have h1:=Zea (step:=ZfI t) (fun i=>(i:Int)) t.2.2.1 (fun o=>o.1<0∨520<o.2.length) (some false) (Zd2 t) (fun i hi hb=>by
   simp only[ZfI];rw[if_pos (by omega),Zi hi,if_neg (by omega),Zp hi (by omega)]) (fun i hi hb=>by
   simp only[ZfI];rw[if_pos (by omega),Zi hi,if_pos (by omega)];rfl) (by
   simp only[ZfI]
   rw[if_neg (by omega)]) (s:=0) rfl
  rw[h1];by_cases hb1:∃ o∈t.2.2.1,o.1<0∨520<o.2.length
  ·rw[if_pos hb1]
   obtain⟨o,ho,hb⟩:=hb1;have:¬ Zi4 t:=fun h=>by have:=h.2.2.1 o ho; omega
   simp[this]
  ·rw[if_neg hb1]
   unfold Zd2
   have h2:=Zea (step:=ZfH t) (fun i=>(i:Int)) t.2.1 (fun x=>32<x.2.2.length∨∃ s∈x.2.2,520<s.length) (some false) (Zd0 t) (fun i hi hb=>by
    have h3:¬ 32<(t.2.1[i]).2.2.length:=fun h=>hb (.inl h)
    have h4:¬ ∃ s∈(t.2.1[i]).2.2,520<s.length:=fun h=>hb (.inr h)
    simp only[ZfH];rw[if_pos (by omega),Zi hi,if_neg (by omega),ZqO hi (by omega) (by omega),if_neg h4]) (fun i hi hb=>by
    simp only[ZfH];rw[if_pos (by omega),Zi hi];by_cases h3:32<(t.2.1[i]).2.2.length
    ·rw[if_pos (by omega)]
     rfl
    ·rw[if_neg (by omega),ZqO hi (by omega) (by omega),if_pos (hb.resolve_left h3)]
     rfl) (by
    simp only[ZfH]
    rw[if_neg (by omega)]) (s:=0) rfl
   rw[h2];by_cases hb2:∃ x∈t.2.1,32<x.2.2.length∨∃ s∈x.2.2,520<s.length
   ·rw[if_pos hb2]
    obtain⟨x,hx,hb⟩:=hb2
    have:¬ Zi4 t:=fun h=>by
     obtain⟨g1,g2⟩:=h.2.2.2 x hx;rcases hb with hb | ⟨s,hs,hb⟩
     ·omega
     ·have:=g2 s hs; omega
    simp[this]
   ·rw[if_neg hb2]
    have hlim:Zi4 t:=by
     refine⟨by omega,by omega,fun o ho=>?_,fun x hx=>⟨?_,fun s hs=>?_⟩⟩
     ·have:¬ (o.1<0∨520<o.2.length):=fun h=>hb1 ⟨o,ho,h⟩
      omega
     ·have:¬ 32<x.2.2.length:=fun h=>hb2 ⟨x,hx,.inl h⟩
      omega
     ·have:¬ 520<s.length:=fun h=>hb2 ⟨x,hx,.inr ⟨s,hs,h⟩⟩
      omega
    unfold Zd0;rw[Zpv (by have:=Zp0 hlim; omega),Za];have e:(((Xb t true).length:Int)≤20000)↔((Xb t true).length≤20000):=by omega
    simp[hlim,e]
theorem Zpw {x:Tapi_Input}{i n:Nat}(hi:i<n) (hn:n≤64) (hw:x.2.2.length≤32):Zd (Zbi x (i:Int)) 0=(if ∃ s∈x.2.2,520<s.length then some (.inr false) else some (.inl ((i+1:Nat):Int))):=by
 refine Zea (step:=Zbi x (i:Int)) (fun j=>(j:Int)) x.2.2 (fun s=>520<s.length) (some (.inr false)) (some (.inl ((i+1:Nat):Int))) (fun j hj hb=>?_) (fun j hj hb=>?_) ?_ rfl
 ·simp only[Zbi]
  rw[if_pos (by omega),Zi hj,if_neg (by omega),Zp hj (by omega)]
 ·simp only[Zbi]
  rw[if_pos (by omega),Zi hj,if_pos (by omega)];rfl
 ·simp only[Zbi]
  rw[if_neg (by omega)];simp only[ZcG,Zp hi (by omega)]
theorem Zfd (t:Tapi_Tx):Zac t=some (Ys t):=by
 classical
 unfold Zac Ys;by_cases h0:64<t.2.1.length∨64<t.2.2.1.length
 ·rw[if_pos (by omega)]
  have:¬ Zi4 t:=fun h=>by have:=h.1; have:=h.2.1; omega
  simp[this]
 ·rw[if_neg (by omega)]
  have h1:=Zea (step:=ZcI t) (fun i=>(i:Int)) t.2.2.1 (fun o=>o.1<0∨520<o.2.length) (some false) (Zbj t) (fun i hi hb=>by
   simp only[ZcI];rw[if_pos (by omega),Zi hi,if_neg (by omega),Zp hi (by omega)]) (fun i hi hb=>by
   simp only[ZcI];rw[if_pos (by omega),Zi hi,if_pos (by omega)];rfl) (by
   simp only[ZcI]
   rw[if_neg (by omega)]) (s:=0) rfl
  rw[h1];by_cases hb1:∃ o∈t.2.2.1,o.1<0∨520<o.2.length
  ·rw[if_pos hb1]
   obtain⟨o,ho,hb⟩:=hb1;have:¬ Zi4 t:=fun h=>by have:=h.2.2.1 o ho; omega
   simp[this]
  ·rw[if_neg hb1]
   unfold Zbj
   have h2:=Zea (step:=ZcH t) (fun i=>(i:Int)) t.2.1 (fun x=>32<x.2.2.length∨∃ s∈x.2.2,520<s.length) (some false) (Zbh t) (fun i hi hb=>by
    have h3:¬ 32<(t.2.1[i]).2.2.length:=fun h=>hb (.inl h)
    have h4:¬ ∃ s∈(t.2.1[i]).2.2,520<s.length:=fun h=>hb (.inr h)
    simp only[ZcH];rw[if_pos (by omega),Zi hi,if_neg (by omega),Zpw hi (by omega) (by omega),if_neg h4]) (fun i hi hb=>by
    simp only[ZcH];rw[if_pos (by omega),Zi hi];by_cases h3:32<(t.2.1[i]).2.2.length
    ·rw[if_pos (by omega)]
     rfl
    ·rw[if_neg (by omega),Zpw hi (by omega) (by omega),if_pos (hb.resolve_left h3)]
     rfl) (by
    simp only[ZcH]
    rw[if_neg (by omega)]) (s:=0) rfl
   rw[h2];by_cases hb2:∃ x∈t.2.1,32<x.2.2.length∨∃ s∈x.2.2,520<s.length
   ·rw[if_pos hb2]
    obtain⟨x,hx,hb⟩:=hb2
    have:¬ Zi4 t:=fun h=>by
     obtain⟨g1,g2⟩:=h.2.2.2 x hx;rcases hb with hb | ⟨s,hs,hb⟩
     ·omega
     ·have:=g2 s hs; omega
    simp[this]
   ·rw[if_neg hb2]
    have hlim:Zi4 t:=by
     refine⟨by omega,by omega,fun o ho=>?_,fun x hx=>⟨?_,fun s hs=>?_⟩⟩
     ·have:¬ (o.1<0∨520<o.2.length):=fun h=>hb1 ⟨o,ho,h⟩
      omega
     ·have:¬ 32<x.2.2.length:=fun h=>hb2 ⟨x,hx,.inl h⟩
      omega
     ·have:¬ 520<s.length:=fun h=>hb2 ⟨x,hx,.inr ⟨s,hs,h⟩⟩
      omega
    unfold Zbh;rw[Zke (by have:=Zp0 hlim; omega),Za];have e:(((Xb t true).length:Int)≤20000)↔((Xb t true).length≤20000):=by omega
    simp[hlim,e]
end
def Nx {σ ρ:Type}(I:Nat→σ→Prop) (Q:ρ→Prop) (n:Nat):σ ⊕ ρ→Prop
 | .inl s=>∃ j,j<n∧I j s
 | .inr r=>Q r
theorem ZK {σ ρ:Type}{step:σ→Option (σ ⊕ ρ)}{I:Nat→σ→Prop}{Q:ρ→Prop}(h:∀ n s,I n s→Tot (step s) (Nx I Q n)){n:Nat}{s:σ}(hs:I n s):Tot (Zd step s) Q:=by
 refine Xa I Q (fun i s hi=>?_) n s hs;obtain⟨x,h1,h2⟩:=h i s hi;cases x with
 | inl s' =>
  obtain⟨j,hj,h3⟩:=h2;exact .inl ⟨j,s',hj,h1,h3⟩
 | inr r=>exact .inr ⟨r,h1,h2⟩
theorem Tot.out {σ ρ:Type}{I:Nat→σ→Prop}{Q:ρ→Prop}{n:Nat}{x:Option ρ}(h:Tot x Q):Tot (x.map .inr) (Nx I Q n):=by
 obtain⟨r,rfl,h⟩:=h;exact⟨_,rfl,h⟩
theorem Zx {α:Type}{p:Prop}[Decidable p]{f:Unit→Option α}{Q:α→Prop}(hp:p) (h:Tot (f ()) Q):Tot ((chk p).bind f) Q:=by rw[Zj hp]; exact h
theorem XY {α β:Type}{l:List α}{i:Int}{f:α→Option β}{Q:β→Prop}(h0:0≤i) (h1:i<l.length) (h:∀ x∈l,Tot (f x) Q):Tot ((idx l i).bind f) Q:=by
 obtain⟨n,rfl⟩:=Int.eq_ofNat_of_zero_le h0;rw[Zi (by omega)];exact h _ (List.getElem_mem _)
theorem Y7 {β:Type}{n:Nat}{i:Int}{f:Nat→Option β}{Q:β→Prop}(h0:0≤i) (h1:i<n) (h:∀ j:Nat,(j:Int)=i→j<n→Tot (f j) Q):Tot ((inA n i).bind f) Q:=by
 obtain⟨m,rfl⟩:=Int.eq_ofNat_of_zero_le h0;rw[Yu (by omega)];exact h _ rfl (by omega)
theorem ZdK {α β:Type}{l:List α}{i:Nat}{f:α→Option β}{Q:β→Prop}(h1:i<l.length) (h:∀ x,l[i]? = some x→Tot (f x) Q):Tot ((l[i]?).bind f) Q:=by
 rw[Ze9 h1];exact h _ (List.getElem?_eq_getElem h1)
theorem ZsV {α β:Type}{l:List α}(f:β→α→β) (b:β){i:Nat}(h:i<l.length):(l.take (i+1)).foldl f b=f ((l.take i).foldl f b) l[i]:=by
 rw[List.take_succ_eq_append_getElem h,List.foldl_append];rfl
theorem Zfe {σ ρ:Type}{step:σ→Option (σ ⊕ ρ)}(enc:Nat→σ) (n:Nat) (bad:Nat→Prop) (rb x:Option ρ) [inst:Decidable (∃ i,i<n∧bad i)] (h:∀ i,i<n→(∀ j,j<i→¬ bad j)→¬ bad i→step (enc i)=some (.inl (enc (i+1)))) (hb:∀ i,i<n→(∀ j,j<i→¬ bad j)→bad i→step (enc i)=rb.map .inr) (he:(∀ j,j<n→¬ bad j)→step (enc n)=x.map .inr){s:σ}(hs:s=enc 0):Zd step s=if ∃ i,i<n∧bad i then rb else x:=by
 subst hs;by_cases hx:∃ i,i<n∧bad i
 ·rw[if_pos hx]
  obtain⟨m,hm,hbm,hmin⟩:=Zpo bad n hx;exact ZM enc m (fun i hi=>h i (by omega) (fun j hj=>hmin j (by omega)) (hmin i hi)) (hb m hm hmin hbm)
 ·rw[if_neg hx]
  have hn:∀ i,i<n→¬ bad i:=fun i hi hbi=>hx ⟨i,hi,hbi⟩
  exact ZM enc n (fun i hi=>h i hi (fun j hj=>hn j (by omega)) (hn i hi)) (he hn)
def sumI:List Int→Int
 | []=>0
 | a :: l=>a+sumI l
theorem ZqP (l m:List Int):sumI (l++m)=sumI l+sumI m:=by
 induction l with
 | nil=>simp[sumI]
 | cons a l ih=>simp only[List.cons_append,sumI,ih]; omega
theorem ZcB {l:List Int}{i:Nat}(h:i<l.length):sumI (l.take (i+1))=sumI (l.take i)+l[i]:=by
 rw[List.take_succ_eq_append_getElem h,ZqP];simp[sumI]
theorem ZhR {l:List Int}(h:∀ v∈l,0≤v):0≤sumI l:=by
 induction l with
 | nil=>simp[sumI]
 | cons a l ih =>
  have h1:=h a (by simp);have h2:=ih fun v hv=>h v (by simp[hv])
  simp only[sumI];omega
theorem ZmK {l:List Int}(h:∀ v∈l,0≤v) (i:Nat):sumI (l.take i)≤sumI l:=by
 have h1:sumI l=sumI (l.take i)+sumI (l.drop i):=by rw[← ZqP,List.take_append_drop]
 have h2:=ZhR (l:=l.drop i) fun v hv=>h v (List.mem_of_mem_drop hv)
 omega
theorem ZrT {l:List Int}{c:Int}(h:∀ v∈l,v≤c):sumI l≤l.length * c:=by
 induction l with
 | nil=>simp[sumI]
 | cons a l ih =>
  have h1:=h a (by simp);have h2:=ih fun v hv=>h v (by simp[hv])
  simp only[sumI,List.length_cons];have:((l.length+1:Nat):Int) * c=(l.length:Int) * c+c:=by rw[Int.natCast_add,Int.add_mul]; simp
  omega
theorem Zm9 (vs:List Int) (M:Int) (hM:0≤M):(∃ i,i<vs.length∧∃ h:i<vs.length,vs[i]<0∨M<sumI (vs.take (i+1)))↔(∃ v∈vs,v<0∨M<v)∨M<sumI vs:=by
 by_cases hneg:∃ v∈vs,v<0
 ·obtain⟨v,hv,hv0⟩:=hneg
  obtain⟨i,hi,rfl⟩:=List.getElem_of_mem hv;exact⟨fun _=>.inl ⟨_,hv,.inl hv0⟩,fun _=>⟨i,hi,hi,.inl hv0⟩⟩
 ·have hp:∀ v∈vs,0≤v:=fun v hv=>by
   have:¬ v<0:=fun h=>hneg ⟨v,hv,h⟩
   omega
  constructor
  ·rintro⟨i,_,hi,hb⟩
   have h1:=hp _ (List.getElem_mem hi);have h2:=ZmK hp (i+1);exact .inr (by omega)
  ·intro h
   have key:M<sumI vs→∃ i,i<vs.length∧∃ h:i<vs.length,vs[i]<0∨M<sumI (vs.take (i+1)):=by
    intro hs
    have hn:0<vs.length:=by
     rcases Nat.eq_zero_or_pos vs.length with h0 | h0
     ·have:=List.length_eq_zero_iff.1 h0
      subst this;simp only[sumI] at hs;omega
     ·exact h0
    refine⟨vs.length-1,by omega,by omega,.inr ?_⟩;rw[show vs.length-1+1=vs.length by omega,List.take_length];exact hs
   rcases h with ⟨v,hv,hb⟩ | hs
   ·have h0:=hp v hv
    obtain⟨i,hi,rfl⟩:=List.getElem_of_mem hv;refine⟨i,hi,hi,.inr ?_⟩;rw[ZcB hi];have:=ZhR (l:=vs.take i) fun v hv=>hp v (List.mem_of_mem_take hv)
    omega
   ·exact key hs
theorem Zt3 {K V:Type}[DecidableEq K] (k a:K) (v:V) (l:List (K×V)):Zb7 k (ZeY a v l)=if k=a then some v else Zb7 k l:=by
 induction l with
 | nil=>simp[ZeY,Zb7]
 | cons x l ih =>
  obtain⟨b,w⟩:=x;simp only[ZeY];by_cases h:a=b
  ·subst h
   rw[if_pos rfl];simp only[Zb7];by_cases hk:k=a <;> simp[hk]
  ·rw[if_neg h]
   simp only[Zb7,ih];by_cases hk:k=b
   ·subst hk
    simp[Ne.symm h]
   ·simp[hk]
def ZoS (l:List Tapi_OutPoint):List (Tapi_OutPoint×Bool):=l.foldl (fun m p=>ZeY p true m) []
theorem Zl6 (k:Tapi_OutPoint) (l:List Tapi_OutPoint):((Zb7 k (ZoS l)).getD false=true)↔k∈l:=by
 have key:∀ (l:List Tapi_OutPoint) (m:List (Tapi_OutPoint×Bool)),((Zb7 k (l.foldl (fun m p=>ZeY p true m) m)).getD false=true)↔(k∈l∨(Zb7 k m).getD false=true):=by
  intro l;induction l with
  | nil=>intro m; simp
  | cons a l ih =>
   intro m;rw[List.foldl_cons,ih,Zt3];by_cases h:k=a
   ·simp[h]
   ·simp[h]
 have:=key l [];simpa[ZoS,Zb7] using this
theorem Zt4 {l:List Tapi_OutPoint}{i:Nat}(h:i<l.length):ZoS (l.take (i+1))=ZeY l[i] true (ZoS (l.take i)):=by
 unfold ZoS;rw[List.take_succ_eq_append_getElem h,List.foldl_append];rfl
abbrev nullP:Tapi_OutPoint:=(zA 32,4294967295)
def cbS (t:Tapi_Tx):Bool:=match t.2.1 with
 | [x]=>decide (x.1=nullP)
 | _=>false
theorem ZsW (t:Tapi_Tx):Zc4 t=some (cbS t):=by
 obtain⟨a,ins,outs,l⟩:=t;unfold Zc4 ZkE cbS
 match ins with
 | []=>simp
 | [x]=>simp[Prod.ext_iff]
 | x :: y :: l =>
  have:¬ ((x :: y :: l).length:Int)=1:=by simp only[List.length_cons]; omega
  dsimp only;simp only[if_neg this,decide_eq_false this];rfl
theorem ZmL (t:Tapi_Tx):X5 t=some (cbS t):=by
 rw[← ZsW];rfl
def Z8 (t:Tapi_Tx):List Int:=t.2.2.1.map Prod.fst
def Z4 (t:Tapi_Tx):List Tapi_OutPoint:=t.2.1.map Prod.fst
def ZsX (l:List Tapi_OutPoint):Prop:=∃ i,i<l.length∧∃ h:i<l.length,l[i]∈l.take i
noncomputable def Zhj (t:Tapi_Tx):Int:=by
 classical exact if ¬ Ys t=true then 4 else if t.2.1.length=0∨t.2.2.1.length=0 then 93 else if (2100000000000000:Int)<sumI (Z8 t) then 90 else if ZsX (Z4 t) then 91 else if nullP∈Z4 t∧¬ cbS t=true then 92 else 0
theorem Zi5 {t:Tapi_Tx}(h:Ys t=true):Zi4 t:=by
 classical
 unfold Ys at h;simp only[decide_eq_true_eq] at h;exact h.1
section
variable {t:Tapi_Tx}
theorem ZqQ (h:Zi4 t):∀ v∈Z8 t,0≤v:=by
 intro v hv;obtain⟨o,ho,rfl⟩:=List.mem_map.1 hv;exact(h.2.2.1 o ho).1
theorem Zvi (h:Zi4 t):ZmC t.2.2.1=some (decide (¬ (2100000000000000:Int)<sumI (Z8 t))):=by
 classical
 have hp:=ZqQ h;have hl:(Z8 t).length=t.2.2.1.length:=by simp[Z8]
 have hget:∀ i (h1:i<t.2.2.1.length),(Z8 t)[i]'(by omega)=(t.2.2.1[i]).1:=by intro i h1; simp[Z8]
 unfold ZmC;have h64:=h.2.1
 have hbnd:∀ i,(∀ j,j<i→¬ ∃ h:j<(Z8 t).length,(Z8 t)[j]<0∨(2100000000000000:Int)<sumI ((Z8 t).take (j+1)))→i≤(Z8 t).length→0≤sumI ((Z8 t).take i)∧sumI ((Z8 t).take i)≤(2100000000000000:Int):=by
  intro i hj hi;refine⟨ZhR fun v hv=>hp v (List.mem_of_mem_take hv),?_⟩;cases i with
  | zero=>simp[sumI]
  | succ i =>
   have:=hj i (by omega);have h2:¬ (2100000000000000:Int)<sumI ((Z8 t).take (i+1)):=fun h=>this ⟨by omega,.inr h⟩
   omega
 rw[Zfe (s:=(0,0)) (step:=Zgh t.2.2.1) (fun i=>(sumI ((Z8 t).take i),(i:Int))) (Z8 t).length (fun i=>∃ h:i<(Z8 t).length,(Z8 t)[i]<0∨(2100000000000000:Int)<sumI ((Z8 t).take (i+1))) (some false) (some true) ?_ ?_ ?_ rfl]
 ·by_cases hs:(2100000000000000:Int)<sumI (Z8 t)
  ·rw[if_pos ((Zm9 _ _ (by decide)).2 (.inr hs))]
   simp[hs]
  ·rw[if_neg]
   ·simp[hs]
   ·intro hb
    rcases(Zm9 _ _ (by decide)).1 hb with ⟨v,hv,hb⟩ | hb
    ·have h0:=hp v hv
     have:=(Zm9 (Z8 t) (2100000000000000:Int) (by decide)).2 (.inl ⟨v,hv,hb⟩);obtain⟨i,_,hi,hb'⟩:=this;have h1:=hp _ (List.getElem_mem hi);have h2:=ZmK hp (i+1);omega
    ·exact hs hb
 ·intro i hi hj hb
  have hb0:=hbnd i hj (by omega);have hb1:¬ (2100000000000000:Int)<sumI ((Z8 t).take (i+1)):=fun h=>hb ⟨hi,.inr h⟩
  have h0:=hp _ (List.getElem_mem hi);have hg:=hget i (by omega);rw[ZcB hi] at hb1;simp only[Zgh];rw[if_pos (by omega),Zi (by omega),wi _ (by omega),if_neg (by omega),wi _ (by omega),Zp hi (by omega),ZcB hi,hg]
 ·intro i hi hj hb
  have hb0:=hbnd i hj (by omega);obtain⟨_,hb⟩:=hb;have h0:=hp _ (List.getElem_mem hi);have hg:=hget i (by omega);rw[ZcB hi] at hb;simp only[Zgh];rw[if_pos (by omega),Zi (by omega),wi _ (by omega),if_pos (by omega)];rfl
 ·intro hj
  simp only[Zgh];rw[if_neg (by omega)];rfl
theorem pts_len:(Z4 t).length=t.2.1.length:=by simp[Z4]
theorem Zi6 {i:Nat}(h1:i<t.2.1.length) (h2:i<(Z4 t).length):(Z4 t)[i]=(t.2.1[i]).1:=by simp[Z4]
theorem Zvj (t:Tapi_Tx):ZmE t=some (Zhj t):=by
 classical
 unfold ZmE Zhj;rw[ZrS,Za];by_cases hf:Ys t=true
 ·have hlim:=Zi5 hf
  have h64:=hlim.1;have hnf:¬ ¬ Ys t=true:=by simp[hf]
  rw[if_neg hnf,if_neg hnf];by_cases h0:t.2.1.length=0∨t.2.2.1.length=0
  ·rw[if_pos (show(t.2.1.length:Int)=0∨(t.2.2.1.length:Int)=0 by omega),if_pos h0]
  ·rw[if_neg (show ¬ ((t.2.1.length:Int)=0∨(t.2.2.1.length:Int)=0) by omega),if_neg h0,Zvi hlim,Za]
   by_cases hs:(2100000000000000:Int)<sumI (Z8 t)
   ·rw[if_pos (by simp[hs]),if_pos hs]
   ·rw[if_neg (by simp[hs]),if_neg hs]
    have hl:=pts_len (t:=t);rw[Zfe (s:=(0,[])) (step:=Zgi t) (fun i=>((i:Int),ZoS ((Z4 t).take i))) (Z4 t).length (fun i=>∃ h:i<(Z4 t).length,(Z4 t)[i]∈(Z4 t).take i) (some 91) (some (if nullP∈Z4 t∧¬ cbS t=true then 92 else 0)) ?_ ?_ ?_ rfl]
    ·by_cases hd:ZsX (Z4 t)
     ·rw[if_pos (show ∃ i,i<(Z4 t).length∧∃ h:i<(Z4 t).length,(Z4 t)[i]∈(Z4 t).take i from hd),if_pos hd]
     ·rw[if_neg (show ¬ ∃ i,i<(Z4 t).length∧∃ h:i<(Z4 t).length,(Z4 t)[i]∈(Z4 t).take i from hd),if_neg hd]
    ·intro i hi _ hb
     have hg:=Zi6 (t:=t) (by omega) hi;simp only[Zgi];rw[if_pos (by omega),Zi (by omega),if_neg,Zp hi (by omega),Zt4 hi,hg];rw[← hg,Zl6];exact fun h=>hb ⟨hi,h⟩
    ·intro i hi _ hb
     have hg:=Zi6 (t:=t) (by omega) hi;simp only[Zgi];rw[if_pos (by omega),Zi (by omega),if_pos]
     ·rfl
     ·rw[← hg,Zl6]
      exact hb.2
    ·intro _
     simp only[Zgi];rw[if_neg (by omega),List.take_length];unfold ZmD;rw[ZsW];by_cases hn:nullP∈Z4 t
     ·have hn' := (Zl6 _ _).2 hn
      rw[if_pos hn'];cases hc:cbS t <;> simp[hn,hn']
     ·have hn':¬ _:=fun h=>hn ((Zl6 nullP (Z4 t)).1 h)
      rw[if_neg hn'];simp[hn,hn']
 ·rw[if_pos hf,if_pos hf]
theorem ZrU {i:Nat}(hi:i<t.2.1.length) (h64:t.2.1.length≤64):(Zd (ZaM (i:Int) t) 0)=(by classical exact if ∃ h:i<(Z4 t).length,(Z4 t)[i]∈(Z4 t).take i then some (.inr 91) else some (.inl ((i+1:Nat):Int))):=by
 classical
 have hl:=pts_len (t:=t);have hgi:=Zi6 hi (by omega);rw[Zfe (s:=0) (step:=ZaM (i:Int) t) (fun j=>(j:Int)) i (fun j=>∃ h:j<(Z4 t).length,(Z4 t)[i]'(by omega)=(Z4 t)[j]) (some (.inr 91)) (some (.inl ((i+1:Nat):Int))) ?_ ?_ ?_ rfl]
 ·have e:(∃ j,j<i∧∃ h:j<(Z4 t).length,(Z4 t)[i]'(by omega)=(Z4 t)[j])↔∃ h:i<(Z4 t).length,(Z4 t)[i]∈(Z4 t).take i:=by
   constructor
   ·rintro⟨j,hj,hj2,e⟩
    refine⟨by omega,?_⟩;rw[e];exact List.mem_take_iff_getElem.2 ⟨j,by omega,rfl⟩
   ·rintro⟨h,hm⟩
    obtain⟨j,hj,e⟩:=List.mem_take_iff_getElem.1 hm;exact⟨j,by omega,by omega,e.symm⟩
  simp only[e]
 ·intro j hj _ hb
  have hgj:=Zi6 (t:=t) (i:=j) (by omega) (by omega);simp only[ZaM];rw[if_pos (by omega),Zi (by omega),Zi (by omega),if_neg,Zp hj (by omega)];intro h;exact hb ⟨by omega,by rw[hgi,hgj]; exact Prod.ext h.1 h.2⟩
 ·intro j hj _ hb
  have hgj:=Zi6 (t:=t) (i:=j) (by omega) (by omega);obtain⟨_,hb⟩:=hb;rw[hgi,hgj] at hb;simp only[ZaM];rw[if_pos (by omega),Zi (by omega),Zi (by omega),if_pos ⟨congrArg Prod.fst hb,congrArg Prod.snd hb⟩];rfl
 ·intro _
  simp only[ZaM];rw[if_neg (by omega)];simp only[ZaL,Zp hi (by omega)]
theorem Zvk (h64:t.2.1.length≤64):X6 t=(by classical exact some (if nullP∈Z4 t∧¬ cbS t=true then 92 else 0)):=by
 classical
 unfold X6;have hl:=pts_len (t:=t);rw[Zfe (s:=0) (step:=ZbW t) (fun j=>(j:Int)) (Z4 t).length (fun j=>∃ h:j<(Z4 t).length,(Z4 t)[j]=nullP∧¬ cbS t=true) (some 92) (some 0) ?_ ?_ ?_ rfl]
 ·have e:(∃ j,j<(Z4 t).length∧∃ h:j<(Z4 t).length,(Z4 t)[j]=nullP∧¬ cbS t=true)↔nullP∈Z4 t∧¬ cbS t=true:=by
   constructor
   ·rintro⟨j,_,hj,e,hc⟩
    exact⟨e ▸ List.getElem_mem hj,hc⟩
   ·rintro⟨hm,hc⟩
    obtain⟨j,hj,e⟩:=List.getElem_of_mem hm;exact⟨j,hj,hj,e,hc⟩
  simp only[e];split <;> rfl
 ·intro i hi _ hb
  have hg:=Zi6 (t:=t) (by omega) hi;simp only[ZbW];rw[if_pos (by omega),Zi (by omega),ZmL];unfold Zd3;rw[Za];by_cases hn:(t.2.1[i]'(by omega)).1=nullP
  ·have hc:cbS t=true:=Decidable.byContradiction fun h=>hb ⟨hi,by rw[hg,hn],h⟩
   rw[hn];simp[hc,Zp hi (show(Z4 t).length≤9223372036854775807 by omega)]
  ·have hn':¬ ((decide ((t.2.1[i]'(by omega)).1.1=zA 32) && decide ((t.2.1[i]'(by omega)).1.2=4294967295))=true):=by
    simp only[Bool.and_eq_true,decide_eq_true_eq];exact fun h=>hn (Prod.ext h.1 h.2)
   rw[if_neg hn',Za,if_neg (fun h=>hn' h.1),Zp hi (by omega)]
 ·intro i hi _ hb
  have hg:=Zi6 (t:=t) (by omega) hi;obtain⟨_,hb,hc⟩:=hb;rw[hg] at hb;simp only[ZbW];rw[if_pos (by omega),Zi (by omega),ZmL];unfold Zd3;rw[Za,hb];simp[hc]
 ·intro _
  simp only[ZbW];rw[if_neg (by omega)];rfl
theorem Zpx (t:Tapi_Tx):Zc5 t=some (Zhj t):=by
 classical
 unfold Zc5 Zhj;rw[Zfd,Za];by_cases hf:Ys t=true
 ·have hlim:=Zi5 hf
  have h64:=hlim.1;have h65:=hlim.2.1;have hp:=ZqQ hlim;have hnf:¬ ¬ Ys t=true:=by simp[hf]
  rw[if_neg hnf,if_neg hnf];by_cases h0:t.2.1.length=0∨t.2.2.1.length=0
  ·rw[if_pos (show(t.2.1.length:Int)=0∨(t.2.2.1.length:Int)=0 by omega),if_pos h0]
  ·rw[if_neg (show ¬ ((t.2.1.length:Int)=0∨(t.2.2.1.length:Int)=0) by omega),if_neg h0]
   have hl:(Z8 t).length=t.2.2.1.length:=by simp[Z8]
   have hget:∀ i (h1:i<t.2.2.1.length),(Z8 t)[i]'(by omega)=(t.2.2.1[i]).1:=by intro i h1; simp[Z8]
   have hk1:Xu (sumI (Z8 t)) t=some (if (2100000000000000:Int)<sumI (Z8 t) then 90 else if ZsX (Z4 t) then 91 else if nullP∈Z4 t∧¬ cbS t=true then 92 else 0):=by
    unfold Xu;by_cases hs:(2100000000000000:Int)<sumI (Z8 t)
    ·rw[if_pos hs,if_pos hs]
    ·rw[if_neg hs,if_neg hs]
     have hl:=pts_len (t:=t);rw[Zfe (s:=0) (step:=ZbX t) (fun i=>(i:Int)) (Z4 t).length (fun i=>∃ h:i<(Z4 t).length,(Z4 t)[i]∈(Z4 t).take i) (some 91) (some (if nullP∈Z4 t∧¬ cbS t=true then 92 else 0)) ?_ ?_ ?_ rfl]
     ·by_cases hd:ZsX (Z4 t)
      ·rw[if_pos (show ∃ i,i<(Z4 t).length∧∃ h:i<(Z4 t).length,(Z4 t)[i]∈(Z4 t).take i from hd),if_pos hd]
      ·rw[if_neg (show ¬ ∃ i,i<(Z4 t).length∧∃ h:i<(Z4 t).length,(Z4 t)[i]∈(Z4 t).take i from hd),if_neg hd]
     ·intro i hi _ hb
      simp only[ZbX];rw[if_pos (by omega),ZrU (by omega) h64,if_neg hb]
     ·intro i hi _ hb
      simp only[ZbX];rw[if_pos (by omega),ZrU (by omega) h64,if_pos hb];rfl
     ·intro _
      simp only[ZbX];rw[if_neg (by omega),Zvk h64]
   have hbnd:∀ i,(∀ j,j<i→¬ ∃ h:j<(Z8 t).length,(2100000000000000:Int)<(Z8 t)[j])→i≤(Z8 t).length→0≤sumI ((Z8 t).take i)∧sumI ((Z8 t).take i)≤i * (2100000000000000:Int):=by
    intro i hj hi;refine⟨ZhR fun v hv=>hp v (List.mem_of_mem_take hv),?_⟩
    have:=ZrT (l:=(Z8 t).take i) (c:=(2100000000000000:Int)) (fun v hv=>by
     obtain⟨j,hj2,rfl⟩:=List.mem_take_iff_getElem.1 hv;have h1:¬ (2100000000000000:Int)<(Z8 t)[j]:=fun h=>hj j (by omega) ⟨by omega,h⟩
     omega)
    rw[List.length_take,Nat.min_eq_left hi] at this;exact this
   rw[Zfe (s:=(0,0)) (step:=ZbY t) (fun i=>(sumI ((Z8 t).take i),(i:Int))) (Z8 t).length (fun i=>∃ h:i<(Z8 t).length,(2100000000000000:Int)<(Z8 t)[i]) (some 90) (Xu (sumI (Z8 t)) t) ?_ ?_ ?_ rfl]
   ·rw[hk1]
    by_cases hx:∃ i,i<(Z8 t).length∧∃ h:i<(Z8 t).length,(2100000000000000:Int)<(Z8 t)[i]
    ·rw[if_pos hx]
     obtain⟨i,_,hi,hb⟩:=hx;have h1:=ZmK hp (i+1);rw[ZcB hi] at h1;have h2:=ZhR (l:=(Z8 t).take i) fun v hv=>hp v (List.mem_of_mem_take hv)
     rw[if_pos (by omega)]
    ·rw[if_neg hx]
   ·intro i hi hj hb
    have hb0:=hbnd i hj (by omega);have hb1:¬ (2100000000000000:Int)<(Z8 t)[i]:=fun h=>hb ⟨hi,h⟩
    have h0:=hp _ (List.getElem_mem hi);have hg:=hget i (by omega);have hi64:(i:Int)≤64:=by omega
    simp only[ZbY];rw[if_pos (by omega),Zi (by omega),if_neg (by omega),wi _ (by omega),Zp hi (by omega),ZcB hi,hg]
   ·intro i hi hj hb
    obtain⟨_,hb⟩:=hb;have hg:=hget i (by omega);simp only[ZbY];rw[if_pos (by omega),Zi (by omega),if_pos (by omega)];rfl
   ·intro _
    simp only[ZbY];rw[if_neg (by omega),List.take_length]
 ·rw[if_pos hf,if_pos hf]
end
theorem ZxK {t:Tapi_Tx}(h:Zhj t=0):t.2.1.length≤64∧t.2.2.1.length≤64:=by
 classical
 unfold Zhj at h;by_cases hf:Ys t=true
 ·have:=Zi5 hf
  exact⟨this.1,this.2.1⟩
 ·rw[if_pos hf] at h
  omega
def ZN (l:List Tapi_Coin):List Int:=l.map fun c=>c.2.1.1
def ZkO (vs:List Int):Prop:=(∃ v∈vs,v<0∨(2100000000000000:Int)<v)∨(2100000000000000:Int)<sumI vs
section
variable {l:List Tapi_Coin}
theorem Zom {i:Nat}(h1:i<l.length) (h2:i<(ZN l).length):(ZN l)[i]=(l[i]).2.1.1:=by simp[ZN]
theorem Zt5 (h64:l.length≤64):ZlX l=(by classical exact if ZkO (ZN l) then some (0,false) else some (sumI (ZN l),true)):=by
 classical
 have hl:(ZN l).length=l.length:=by simp[ZN]
 have hbnd:∀ i,(∀ j,j<i→¬ ∃ h:j<(ZN l).length,(ZN l)[j]<0∨(2100000000000000:Int)<sumI ((ZN l).take (j+1)))→i≤(ZN l).length→0≤sumI ((ZN l).take i)∧sumI ((ZN l).take i)≤(2100000000000000:Int):=by
  intro i hj hi;refine⟨ZhR fun v hv=>?_,?_⟩
  ·obtain⟨j,hj2,rfl⟩:=List.mem_take_iff_getElem.1 hv
   have h1:¬ (ZN l)[j]<0:=fun h=>hj j (by omega) ⟨by omega,.inl h⟩
   omega
  ·cases i with
   | zero=>simp[sumI]
   | succ i =>
    have h2:¬ (2100000000000000:Int)<sumI ((ZN l).take (i+1)):=fun h=>hj i (by omega) ⟨by omega,.inr h⟩
    omega
 unfold ZlX;rw[Zfe (s:=(0,0)) (step:=Zfk l) (fun i=>(sumI ((ZN l).take i),(i:Int))) (ZN l).length (fun i=>∃ h:i<(ZN l).length,(ZN l)[i]<0∨(2100000000000000:Int)<sumI ((ZN l).take (i+1))) (some (0,false)) (some (sumI (ZN l),true)) ?_ ?_ ?_ rfl]
 ·simp only[Zm9 (ZN l) (2100000000000000:Int) (by decide)]
  by_cases hs:ZkO (ZN l)
  ·rw[if_pos (show(∃ v∈ZN l,v<0∨(2100000000000000:Int)<v)∨(2100000000000000:Int)<sumI (ZN l) from hs),if_pos hs]
  ·rw[if_neg (show ¬ ((∃ v∈ZN l,v<0∨(2100000000000000:Int)<v)∨(2100000000000000:Int)<sumI (ZN l)) from hs),if_neg hs]
 ·intro i hi hj hb
  have hb0:=hbnd i hj (by omega);have hb1:¬ (2100000000000000:Int)<sumI ((ZN l).take (i+1)):=fun h=>hb ⟨hi,.inr h⟩
  have h0:¬ (ZN l)[i]<0:=fun h=>hb ⟨hi,.inl h⟩
  have hg:=Zom (l:=l) (by omega) hi;rw[ZcB hi] at hb1;simp only[Zfk];rw[if_pos (by omega),Zi (by omega),wi (2100000000000000-_) (by omega),if_neg (by omega),wi _ (by omega),Zp hi (by omega),ZcB hi,hg]
 ·intro i hi hj hb
  have hb0:=hbnd i hj (by omega);obtain⟨_,hb⟩:=hb;have hg:=Zom (l:=l) (by omega) hi;rw[ZcB hi] at hb;simp only[Zfk];rw[if_pos (by omega),Zi (by omega),wi _ (by omega),if_pos (by omega)];rfl
 ·intro hj
  simp only[Zfk];rw[if_neg (by omega),List.take_length];rfl
theorem ZwH {t:Tapi_Tx}(h64:l.length≤64):Za5 l t=(by classical exact if ZkO (ZN l) then some (0,90) else Zd (Zaj t) (sumI (ZN l),0)):=by
 classical
 have hl:(ZN l).length=l.length:=by simp[ZN]
 have hbnd:∀ i,(∀ j,j<i→¬ ∃ h:j<(ZN l).length,(ZN l)[j]<0∨(2100000000000000:Int)<(ZN l)[j])→i≤(ZN l).length→0≤sumI ((ZN l).take i)∧sumI ((ZN l).take i)≤i * (2100000000000000:Int):=by
  intro i hj hi
  have hp:∀ v∈(ZN l).take i,0≤v∧v≤(2100000000000000:Int):=fun v hv=>by
   obtain⟨j,hj2,rfl⟩:=List.mem_take_iff_getElem.1 hv;have h1:¬ (ZN l)[j]<0:=fun h=>hj j (by omega) ⟨by omega,.inl h⟩
   have h2:¬ (2100000000000000:Int)<(ZN l)[j]:=fun h=>hj j (by omega) ⟨by omega,.inr h⟩
   omega
  refine⟨ZhR fun v hv=>(hp v hv).1,?_⟩;have:=ZrT (l:=(ZN l).take i) (c:=(2100000000000000:Int)) (fun v hv=>(hp v hv).2);rw[List.length_take,Nat.min_eq_left hi] at this;exact this
 unfold Za5;rw[Zfe (s:=(0,0)) (step:=Zdw l t) (fun i=>(sumI ((ZN l).take i),(i:Int))) (ZN l).length (fun i=>∃ h:i<(ZN l).length,(ZN l)[i]<0∨(2100000000000000:Int)<(ZN l)[i]) (some (0,90)) (Zca (sumI (ZN l)) t) ?_ ?_ ?_ rfl]
 ·by_cases hx:∃ i,i<(ZN l).length∧∃ h:i<(ZN l).length,(ZN l)[i]<0∨(2100000000000000:Int)<(ZN l)[i]
  ·have hs:ZkO (ZN l):=by
    obtain⟨i,_,hi,hb⟩:=hx;exact .inl ⟨_,List.getElem_mem hi,hb⟩
   rw[if_pos hx,if_pos hs]
  ·rw[if_neg hx]
   unfold Zca;by_cases hs:(2100000000000000:Int)<sumI (ZN l)
   ·have hs':ZkO (ZN l):=.inr hs
    rw[if_pos hs,if_pos hs']
   ·have hs':¬ ZkO (ZN l):=by
     rintro(⟨v,hv,hb⟩ | h)
     ·obtain⟨i,hi,rfl⟩:=List.getElem_of_mem hv
      exact hx ⟨i,hi,hi,hb⟩
     ·exact hs h
    rw[if_neg hs,if_neg hs']
 ·intro i hi hj hb
  have hb0:=hbnd i hj (by omega);have hb1:¬ ((ZN l)[i]<0∨(2100000000000000:Int)<(ZN l)[i]):=fun h=>hb ⟨hi,h⟩
  have hg:=Zom (l:=l) (by omega) hi;have hi64:(i:Int)≤64:=by omega
  simp only[Zdw];rw[if_pos (by omega),Zi (by omega),if_neg (by omega),wi _ (by omega),Zp hi (by omega),ZcB hi,hg]
 ·intro i hi hj hb
  obtain⟨_,hb⟩:=hb;have hg:=Zom (l:=l) (by omega) hi;simp only[Zdw];rw[if_pos (by omega),Zi (by omega),if_pos (by omega)];rfl
 ·intro _
  simp only[Zdw];rw[if_neg (by omega),List.take_length]
end
theorem ZwI (t:Tapi_Tx):Zmi t=Zaj t:=by
 funext ⟨a,b⟩
 rfl
def ZqR (n:Int) (l:List Tapi_Output):Int:=l.foldl (fun n x=>IntKind.i64.wrap (n-x.1)) n
theorem Zvl {t:Tapi_Tx}(h:t.2.2.1.length≤64) (n:Int):∃ r,Zd (Zaj t) (n,0)=some r:=by
 have:=ZM (step:=Zaj t) (fun i=>(ZqR n (t.2.2.1.take i),(i:Int))) t.2.2.1.length (x:=Za4 (ZqR n t.2.2.1)) (fun i hi=>by
  simp only[Zaj];rw[if_pos (by omega),Zi hi,Zp hi (by omega)];unfold ZqR;rw[ZsV _ _ hi]) (by
  simp only[Zaj]
  rw[if_neg (by omega),List.take_length])
 have e:Zd (Zaj t) (n,0)=Za4 (ZqR n t.2.2.1):=by simpa[ZqR] using this
 rw[e];unfold Za4;split <;> exact⟨_,rfl⟩
theorem Zvm (t:Tapi_Tx) (l:List Tapi_Coin):∃ r,Zoj t l=some r∧ZgB t l=some r:=by
 classical
 unfold Zoj ZgB;rw[Zvj,Zpx,Za,Za];by_cases hc:Zhj t=0
 ·obtain⟨h64,h65⟩:=ZxK hc
  have hnc:¬ ¬ Zhj t=0:=by simp[hc]
  rw[if_neg hnc,if_neg hnc];by_cases hn:(l.length:Int)=(t.2.1.length:Int)
  ·have hnn:¬ ¬ (l.length:Int)=(t.2.1.length:Int):=by simp[hn]
   rw[if_neg hnn,if_neg hnn]
   have hk:∃ r,ZjA l t=some r∧Za5 l t=some r:=by
    rw[ZwH (by omega)];unfold ZjA;rw[Zt5 (by omega)];by_cases hs:ZkO (ZN l)
    ·rw[if_pos hs,if_pos hs]
     exact⟨_,rfl,rfl⟩
    ·rw[if_neg hs,if_neg hs,Za,if_neg (by simp),ZwI]
     obtain⟨r,hr⟩:=Zvl h65 (sumI (ZN l));exact⟨r,hr,hr⟩
   obtain⟨r,hk1,hk2⟩:=hk
   have e1:=Zea (s:=0) (step:=Zfl l t) (fun i=>(i:Int)) (l.zip t.2.1) (fun x=>¬ (x.1.1.1=x.2.1.1∧x.1.1.2=x.2.1.2)) (some (0,101)) (some r) (fun i hi hb=>by
    have hi2:i<l.length:=by simp at hi; omega
    have hi3:i<t.2.1.length:=by simp at hi; omega
    simp only[List.getElem_zip] at hb;simp only[Zfl];rw[if_pos (by omega),Zi hi2,Zi hi3,if_neg hb,Zp hi2 (by omega)]) (fun i hi hb=>by
    have hi2:i<l.length:=by simp at hi; omega
    have hi3:i<t.2.1.length:=by simp at hi; omega
    simp only[List.getElem_zip] at hb;simp only[Zfl];rw[if_pos (by omega),Zi hi2,Zi hi3,if_pos hb];rfl) (by
    have:(l.zip t.2.1).length=l.length:=by simp; omega
    simp only[Zfl]
    rw[if_neg (by omega),hk1]) rfl
   have e2:=Zea (s:=0) (step:=Zdx l t) (fun i=>(i:Int)) (l.zip t.2.1) (fun x=>¬ (x.1.1.1=x.2.1.1∧x.1.1.2=x.2.1.2)) (some (0,101)) (some r) (fun i hi hb=>by
    have hi2:i<l.length:=by simp at hi; omega
    have hi3:i<t.2.1.length:=by simp at hi; omega
    simp only[List.getElem_zip] at hb;simp only[Zdx];rw[if_pos (by omega),Zi hi2,Zi hi3,if_neg hb,Zp hi2 (by omega)]) (fun i hi hb=>by
    have hi2:i<l.length:=by simp at hi; omega
    have hi3:i<t.2.1.length:=by simp at hi; omega
    simp only[List.getElem_zip] at hb;simp only[Zdx];rw[if_pos (by omega),Zi hi2,Zi hi3,if_pos hb];rfl) (by
    have:(l.zip t.2.1).length=l.length:=by simp; omega
    simp only[Zdx]
    rw[if_neg (by omega),hk2]) rfl
   rw[e1,e2];split <;> exact⟨_,rfl,rfl⟩
  ·rw[if_pos hn,if_pos hn]
   exact⟨_,rfl,rfl⟩
 ·rw[if_pos hc,if_pos hc]
  exact⟨_,rfl,rfl⟩
theorem ZrV {k:IntKind}(h:k.signed=false) (x:Int):0≤k.wrap x:=by
 cases k <;> simp[IntKind.signed] at h <;> simp[IntKind.wrap,IntKind.signed,IntKind.bits] <;> omega
theorem ZwJ {k:IntKind}(h:k.signed=false) (op:BinOp) (x y:Int):0≤bits op k x y:=ZrV h _
def rot (x n:Int):Int:=bits .or .u32 (IntKind.u32.wrap (x * (2 ^ (min (bits .and .u64 (IntKind.u64.wrap n) 31).toNat 32)))) (x.fdiv (2 ^ (min (IntKind.u64.wrap (32-(bits .and .u64 (IntKind.u64.wrap n) 31))).toNat 32)))
theorem Zt6 (x n:Int):YP x n=some (rot x n):=by
 have h1:¬ bits .and .u64 (IntKind.u64.wrap n) 31<0:=by have:=ZwJ (k:=.u64) rfl .and (IntKind.u64.wrap n) 31; omega
 have h2:¬ IntKind.u64.wrap (32-bits .and .u64 (IntKind.u64.wrap n) 31)<0:=by have:=ZrV (k:=.u64) rfl (32-bits .and .u64 (IntKind.u64.wrap n) 31); omega
 unfold YP;rw[Zj h1,Zj h2];rfl
def rr (x n:Int):Int:=rot x (IntKind.i64.wrap (-n))
theorem Zjn (x n:Int):XH x n=some (rr x n):=by
 unfold XH;rw[Zt6];rfl
theorem Zhk (x n:Int):YT x n=some (rr x n):=by
 unfold YT;rw[Zt6];rfl
def wd (b:Arr 64) (i:Nat):Nat→Int
 | 0=>0
 | j+1=>bits .or .u32 (IntKind.u32.wrap (wd b i j * 256)) (IntKind.u32.wrap (b.at (4 * i+j)))
def Zf1 (b:Arr 64):Nat→Arr 64
 | 0=>zA 64
 | i+1=>(Zf1 b i).put i (wd b i 4)
theorem ZrW (b:Arr 64):∀ (i j:Nat),i≤j→(Zf1 b i).at j=0
 | 0,j,_=>ZyG
 | i+1,j,h=>by
  unfold Zf1;rw[Arr.at_put_ne _ (by omega)];exact ZrW b i j (by omega)
def Zvn (w:Arr 64) (i:Nat):Int:=IntKind.u32.wrap ((IntKind.u32.wrap ((IntKind.u32.wrap ((w.at (i-16))+(bits .xor .u32 (bits .xor .u32 (rr (w.at (i-15)) 7) (rr (w.at (i-15)) 18)) ((w.at (i-15)).fdiv 8))))+(w.at (i-7))))+(bits .xor .u32 (bits .xor .u32 (rr (w.at (i-2)) 17) (rr (w.at (i-2)) 19)) ((w.at (i-2)).fdiv 1024)))
def ZhS (w:Arr 64):Nat→Arr 64
 | 0=>w
 | k+1=>(ZhS w k).put (16+k) (Zvn (ZhS w k) (16+k))
def XZ (b:Arr 64):Arr 64:=ZhS (Zf1 b 16) 48
theorem ZaV {n i:Nat}{z:Int}{β:Type}{f:Nat→Option β}(h:z=(i:Int)) (hi:i<n):(inA n z).bind f=f i:=by
 subst h;exact Yu hi
theorem ZxL (w:Arr 64):Zar w=some (ZhS w 48):=by
 unfold Zar
 have:=ZM (step:=Lsha_schedule_s2) (fun k=>(((16+k:Nat):Int),ZhS w k)) 48 (x:=some (ZhS w 48)) (fun k hk=>by
  simp only[Lsha_schedule_s2];rw[if_pos (by omega),ZaV (i:=16+k-15) (by rw[wi _ (by omega)]; omega) (by omega),Zjn,Za,Zjn,Za,ZaV (i:=16+k-2) (by rw[wi _ (by omega)]; omega) (by omega),Zjn,Za,Zjn,Za,ZaV (i:=16+k-16) (by rw[wi _ (by omega)]; omega) (by omega),ZaV (i:=16+k-7) (by rw[wi _ (by omega)]; omega) (by omega),ZaV (i:=16+k) rfl (by omega),wi _ (by omega)];rfl) (by
  simp only[Lsha_schedule_s2];rw[if_neg (by omega)]
  rfl)
 exact this
theorem ZxM (w:Arr 64):ZaD w=some (ZhS w 48):=by
 unfold ZaD
 have:=ZM (step:=Lref03_schedule_s2) (fun k=>(((16+k:Nat):Int),ZhS w k)) 48 (x:=some (ZhS w 48)) (fun k hk=>by
  simp only[Lref03_schedule_s2];rw[if_pos (by omega),ZaV (i:=16+k-15) (by rw[wi _ (by omega)]; omega) (by omega),Zhk,Za,Zhk,Za,ZaV (i:=16+k-2) (by rw[wi _ (by omega)]; omega) (by omega),Zhk,Za,Zhk,Za,ZaV (i:=16+k-16) (by rw[wi _ (by omega)]; omega) (by omega),ZaV (i:=16+k-7) (by rw[wi _ (by omega)]; omega) (by omega),ZaV (i:=16+k) rfl (by omega),wi _ (by omega)];rfl) (by
  simp only[Lref03_schedule_s2];rw[if_neg (by omega)]
  rfl)
 exact this
theorem Zvo (b:Arr 64):Zdy b=some (XZ b):=by
 unfold Zdy;refine ZM (step:=Zc7 b) (fun i=>((i:Int),Zf1 b i)) 16 (x:=some (XZ b)) (fun i hi=>?_) ?_
 ·simp only[Zc7]
  rw[if_pos (by omega)]
  have h0:Zf1 b i=(Zf1 b i).put i (wd b i 0):=by
   have:=Arr.put_at (Zf1 b i) (i:=i) (by omega);rw[ZrW b i i (Nat.le_refl _)] at this;exact this.symm
  have:=ZM (step:=Zas (i:Int) b) (fun j=>((j:Int),(Zf1 b i).put i (wd b i j))) 4 (x:=some (.inl (((i+1:Nat):Int),(Zf1 b i).put i (wd b i 4)))) (fun j hj=>by
   simp only[Zas];rw[if_pos (by omega),Yu (by omega),ZaV (i:=4 * i+j) (by rw[wi (4 * (i:Int)) (by omega),wi _ (by omega)]; omega) (by omega),Arr.at_put _ (by omega),Arr.put_put,Zp hj (by omega)];rfl) (by
   simp only[Zas];rw[if_neg (by omega)]
   simp only[Zbk,Zp hi (show(16:Nat)≤9223372036854775807 by omega)])
  have e:Zd (Zas (i:Int) b) (0,Zf1 b i)=_:=(congrArg (fun w=>Zd (Zas (i:Int) b) (0,w)) h0).trans this;rw[e];rfl
 ·simp only[Zc7]
  rw[if_neg (by omega),ZxL];rfl
abbrev bv (x:Int):BitVec 32:=BitVec.ofInt 32 x
theorem Zi7 (x:Int):IntKind.u32.wrap x=x % 2 ^ 32:=by simp[IntKind.wrap,IntKind.signed,IntKind.bits]
theorem ZrX (x:Int):bv (IntKind.u32.wrap x)=bv x:=by
 rw[Zi7];apply BitVec.eq_of_toNat_eq
 simp[BitVec.toNat_ofInt]
theorem ZyW (x y:Int):bv (bits .or .u32 x y)=bv x ||| bv y:=by
 show bv (IntKind.u32.wrap ((bv x ||| bv y).toNat:Nat))=_
 rw[ZrX];generalize bv x ||| bv y=r
 show BitVec.ofInt 32 (r.toNat:Int)=r
 rw[BitVec.ofInt_natCast,BitVec.ofNat_toNat];simp
theorem Zvp {x x' y y':Int}(h1:bv x=bv x') (h2:bv y=bv y'):bits .or .u32 x y=bits .or .u32 x' y' := by
 show IntKind.u32.wrap ((bv x ||| bv y).toNat:Nat)=IntKind.u32.wrap ((bv x' ||| bv y').toNat:Nat)
 rw[h1,h2]
theorem ZqS (x:Int) (k:Nat) (h:BitVec.ofInt 32 (2 ^ k)=BitVec.twoPow 32 k):bv (x * 2 ^ k)=bv x <<< k:=by
 rw[BitVec.shiftLeft_eq_mul_twoPow,← h];exact BitVec.ofInt_mul _ _
def wr (b:Arr 64) (i:Nat):Int:=bits .or .u32 (bits .or .u32 (bits .or .u32 (IntKind.u32.wrap ((IntKind.u32.wrap (b.at (4 * i))) * 16777216)) (IntKind.u32.wrap ((IntKind.u32.wrap (b.at (4 * i+1))) * 65536))) (IntKind.u32.wrap ((IntKind.u32.wrap (b.at (4 * i+2))) * 256))) (IntKind.u32.wrap (b.at (4 * i+3)))
theorem ZyX (b:Arr 64) (i:Nat):wr b i=wd b i 4:=by
 unfold wr;simp only[wd];refine Zvp ?_ rfl;have e8:∀ x,bv (x * 256)=bv x <<< 8:=fun x=>ZqS x 8 (by decide)
 have e16:∀ x,bv (x * 65536)=bv x <<< 16:=fun x=>ZqS x 16 (by decide)
 have e24:∀ x,bv (x * 16777216)=bv x <<< 24:=fun x=>ZqS x 24 (by decide)
 simp only[ZyW,ZrX,e8,e16,e24];have h0:(bv 0) <<< 8=0#32:=by decide
 simp only[h0,BitVec.shiftLeft_or_distrib,← BitVec.shiftLeft_add,BitVec.zero_or,Nat.add_zero]
theorem Zt7 (b:Arr 64):ZbZ b=some (XZ b):=by
 unfold ZbZ;refine ZM (step:=ZbL b) (fun i=>((i:Int),Zf1 b i)) 16 (x:=some (XZ b)) (fun i hi=>?_) ?_
 ·simp only[ZbL]
  rw[if_pos (by omega),wi (4 * (i:Int)) (by omega),wi (4 * (i:Int)+1) (by omega),wi (4 * (i:Int)+2) (by omega),wi (4 * (i:Int)+3) (by omega),ZaV (i:=4 * i) (by omega) (by omega),ZaV (i:=4 * i+1) (by omega) (by omega),ZaV (i:=4 * i+2) (by omega) (by omega),ZaV (i:=4 * i+3) (by omega) (by omega),Yu (by omega),Zp hi (by omega)];show some (Sum.inl (((i+1:Nat):Int),(Zf1 b i).put i (wr b i)))=_
  rw[ZyX];rfl
 ·simp only[ZbL]
  rw[if_neg (by omega),ZxM];rfl
theorem consts:Lref03_constants=some shaK:=by
 unfold Lref03_constants
 kernel_rfl
theorem inits:Lref03_Initial=some shaInitial:=by
 unfold Lref03_Initial
 kernel_rfl
abbrev St8:=Int×Int×Int×Int×Int×Int×Int×Int
abbrev ad (x y:Int):Int:=IntKind.u32.wrap (x+y)
def t1 (s:St8) (k w:Int):Int:=match s with
 | (a,b,c,d,e,f,g,h)=>ad (ad (ad (ad h (bits .xor .u32 (bits .xor .u32 (rr e 6) (rr e 11)) (rr e 25))) (bits .xor .u32 (bits .and .u32 e f) (bits .and .u32 (bits .xor .u32 4294967295 e) g))) k) w
def t2 (s:St8):Int:=match s with
 | (a,b,c,d,e,f,g,h)=>ad (bits .xor .u32 (bits .xor .u32 (rr a 2) (rr a 13)) (rr a 22)) (bits .xor .u32 (bits .xor .u32 (bits .and .u32 a b) (bits .and .u32 a c)) (bits .and .u32 b c))
def rnd (s:St8) (k w:Int):St8:=match s with
 | (a,b,c,d,e,f,g,h)=>(ad (t1 s k w) (t2 s),a,b,c,ad d (t1 s k w),e,f,g)
def Ziy (w:Arr 64) (s:St8):Nat→St8
 | 0=>s
 | i+1=>rnd (Ziy w s i) (shaK.at i) (w.at i)
def st0 (x:Arr 8):St8:=(x.at 0,x.at 1,x.at 2,x.at 3,x.at 4,x.at 5,x.at 6,x.at 7)
noncomputable def Zl7 (x:Arr 8) (b:Arr 64):Arr 8:=match Ziy (XZ b) (st0 x) 64 with
 | (a,b,c,d,e,f,g,h)=>((((((((zA 8).put 0 (IntKind.u32.wrap ((x.at 0)+a))).put 1 (IntKind.u32.wrap ((x.at 1)+b))).put 2 (IntKind.u32.wrap ((x.at 2)+c))).put 3 (IntKind.u32.wrap ((x.at 3)+d))).put 4 (IntKind.u32.wrap ((x.at 4)+e))).put 5 (IntKind.u32.wrap ((x.at 5)+f))).put 6 (IntKind.u32.wrap ((x.at 6)+g))).put 7 (IntKind.u32.wrap ((x.at 7)+h))
def ZmM (s:St8) (i:Nat):Int×Int×Int×Int×Int×Int×Int×Int×Int:=match s with
 | (a,b,c,d,e,f,g,h)=>(a,b,c,d,e,f,g,h,(i:Int))
theorem ZwK (x:Arr 8) (b:Arr 64):Zdz x b=some (Zl7 x b):=by
 unfold Zdz;rw[Zvo,Za];refine ZM (step:=Zc8 (XZ b) x) (fun i=>ZmM (Ziy (XZ b) (st0 x) i) i) 64 (x:=some (Zl7 x b)) (fun i hi=>?_) ?_
 ·show _=some (Sum.inl (ZmM (rnd (Ziy (XZ b) (st0 x) i) (shaK.at i) ((XZ b).at i)) (i+1)))
  obtain⟨a,b',c,d,e,f,g,h⟩:=Ziy (XZ b) (st0 x) i;simp only[ZmM,Zc8];refine(if_pos (show(i:Int)<64 by omega)).trans ?_;rw[Zjn,Za,Zjn,Za,Zjn,Za,Yu hi,Zjn,Za,Zjn,Za,Zjn,Za,Zp hi (by omega)];rfl
 ·unfold Zl7
  obtain⟨a,b',c,d,e,f,g,h⟩:=Ziy (XZ b) (st0 x) 64;simp only[ZmM,Zc8];exact(if_neg (by decide)).trans rfl
theorem Zvq (x:Arr 8) (b:Arr 64):Xv x b=some (Zl7 x b):=by
 unfold Xv;rw[Zt7,Za,consts,Za];refine ZM (step:=ZbM shaK (XZ b) x) (fun i=>ZmM (Ziy (XZ b) (st0 x) i) i) 64 (x:=some (Zl7 x b)) (fun i hi=>?_) ?_
 ·show _=some (Sum.inl (ZmM (rnd (Ziy (XZ b) (st0 x) i) (shaK.at i) ((XZ b).at i)) (i+1)))
  obtain⟨a,b',c,d,e,f,g,h⟩:=Ziy (XZ b) (st0 x) i;simp only[ZmM,ZbM];refine(if_pos (show(i:Int)<64 by omega)).trans ?_;rw[Zhk,Za,Zhk,Za,Zhk,Za,Yu hi,Zhk,Za,Zhk,Za,Zhk,Za,Zp hi (by omega)];rfl
 ·unfold Zl7
  obtain⟨a,b',c,d,e,f,g,h⟩:=Ziy (XZ b) (st0 x) 64;simp only[ZmM,ZbM];exact(if_neg (by decide)).trans rfl
def Zgs (n:Nat):Nat:=(64-(n+9) % 64) % 64
def ZoT (n:Nat) (j:Nat):Int:=IntKind.u8.wrap ((IntKind.u64.wrap (8 * (n:Int))).fdiv (2 ^ (56-8 * j)))
def Zah (n:Nat):List Int:=(128 :: List.replicate (Zgs n) 0)++(List.range 8).map (ZoT n)
theorem ZnS (n:Nat):(Zah n).length=9+Zgs n:=by simp[Zah]; omega
theorem Zna (n:Nat):Zgs n<64:=Nat.mod_lt _ (by omega)
theorem tm {a b:Nat}:((a:Int).tmod (b:Int))=((a % b:Nat):Int):=rfl
theorem ZyY {n:Nat}(hn:n≤1000000000):(IntKind.u64.wrap (64-((IntKind.u64.wrap ((n:Int)+9)).tmod 64))).tmod 64=(Zgs n:Int):=by
 have e1:IntKind.u64.wrap ((n:Int)+9)=((n+9:Nat):Int):=wu _ (by omega);have e2:((n+9:Nat):Int).tmod 64=(((n+9) % 64:Nat):Int):=rfl;have h:=Nat.mod_lt (n+9) (show 64 > 0 by omega);have e3:IntKind.u64.wrap (64-(((n+9) % 64:Nat):Int))=((64-(n+9) % 64:Nat):Int):=by rw[wu _ (by omega)]; omega
 rw[e1,e2,e3];rfl
theorem ZwL {n:Nat}(hn:n≤1000000000):ZiP (n:Int)=some (Zah n):=by
 have hp:=ZyY hn;have hl:=Zna n;unfold ZiP;rw[hp,wu (1+(Zgs n:Int)) (by omega),wu (9+(Zgs n:Int)) (by omega),Zj (by omega),Zj (by simp; omega)]
 have e0:(List.replicate ((1+(Zgs n:Int)).toNat) (0:Int)).set 0 128=128 :: List.replicate (Zgs n) 0:=by
  rw[show(1+(Zgs n:Int)).toNat=Zgs n+1 by omega,List.replicate_succ];rfl
 rw[e0]
 have:=ZM (step:=Zhb (n:Int)) (fun k=>((k:Int),(128 :: List.replicate (Zgs n) 0)++(List.range k).map (ZoT n))) 8 (x:=some (Zah n)) (fun k hk=>by
  simp only[Zhb];rw[if_pos (by omega),wi (8 * (k:Int)) (by omega),wi (56-8 * (k:Int)) (by omega),Zj (by omega),Zj (by simp; omega),Zp hk (by omega)];have e:min (56-8 * (k:Int)).toNat 64=56-8 * k:=by omega
  rw[e,List.range_succ,List.map_append,← List.append_assoc];rfl) (by
  simp only[Zhb];rw[if_neg (by omega)]
  rfl)
 simpa using this
theorem Zvr {n:Nat}(hn:n≤1000000000) (b:List Int) (hb:b.length≤1000):Zd (ZdA (n:Int)) (7,b)=some (b++(List.range 8).map (ZoT n)):=by
 have:=ZM (step:=ZdA (n:Int)) (fun k=>(7-(k:Int),b++(List.range k).map (ZoT n))) 8 (x:=some (b++(List.range 8).map (ZoT n))) (fun k hk=>by
  simp only[ZdA];rw[if_pos (by omega),wi (8 * (7-(k:Int))) (by omega),Zj (by omega),Zj (by simp; omega),wi (7-(k:Int)-1) (by omega)];have e:min (8 * (7-(k:Int))).toNat 64=56-8 * k:=by omega
  rw[e,List.range_succ,List.map_append,← List.append_assoc,show 7-(k:Int)-1=7-((k+1:Nat):Int) by omega];rfl) (by
  simp only[ZdA];rw[if_neg (by omega)]
  rfl)
 simpa using this
theorem ZwM {n:Nat}(hn:n≤1000000000):ZgD (n:Int)=some (Zah n):=by
 have hl:=Zna n;unfold ZgD
 have key:∀ k,k≤Zgs n→(IntKind.u64.wrap ((IntKind.u64.wrap ((n:Int)+(IntKind.u64.wrap (((128 :: List.replicate k (0:Int)).length:Nat):Int))))+8)).tmod 64=(((n+k+9) % 64:Nat):Int):=by
  intro k hk;have e:(128 :: List.replicate k (0:Int)).length=k+1:=by simp
  rw[e,wu ((k+1:Nat):Int) (by omega),wu ((n:Int)+((k+1:Nat):Int)) (by omega),wu _ (by omega),show((n:Int)+((k+1:Nat):Int)+8)=((n+k+9:Nat):Int) by omega];exact tm
 have:=ZM (step:=Zfn (n:Int)) (fun k=>128 :: List.replicate k (0:Int)) (Zgs n) (x:=some (Zah n)) (fun k hk=>by
  simp only[Zfn];rw[key k (by omega),if_pos,Zj (by simp; omega)]
  ·rw[List.cons_append,← List.replicate_succ']
  ·have:¬ (n+k+9) % 64=0:=by unfold Zgs at hk; omega
   omega) (by
  simp only[Zfn];rw[key _ (Nat.le_refl _),if_neg]
  ·unfold Zfm
   rw[Zvr hn _ (by simp; omega)];rfl
  ·have:(n+Zgs n+9) % 64=0:=by unfold Zgs; omega
   omega)
 simpa using this
def blk (y:List Int) (i:Nat):Arr 64:=ZnP 64 (y.drop (64 * i))
noncomputable def hsh (y:List Int):Nat→Arr 8
 | 0=>shaInitial
 | i+1=>Zl7 (hsh y i) (blk y i)
theorem Zt8 {l:List Int}(h:64≤l.length):(zA 64).over l=ZnP 64 l:=by
 unfold Arr.over ZnP;rw[dif_pos h];have hz:=(zA 64).hl;have e:(zA 64).l.drop (min l.length 64)=[]:=List.drop_eq_nil_of_le (by omega);simp only[e,List.append_nil]
def byt (h:Arr 8) (k:Nat):Int:=IntKind.u8.wrap ((h.at (k / 4)).fdiv (2 ^ (24-(k % 4) * 8)))
def Zi8 (h:Arr 8):Nat→Arr 32
 | 0=>zA 32
 | k+1=>(Zi8 h k).put k (byt h k)
theorem ZwN (h:Arr 8):ZfJ h=some (Zi8 h 32):=by
 unfold ZfJ;refine ZM (step:=Zhc h) (fun k=>((k:Int),Zi8 h k)) 32 (x:=some (Zi8 h 32)) (fun k hk=>?_) ?_
 ·simp only[Zhc]
  have e4:(k:Int).tmod 4=((k % 4:Nat):Int):=tm;have d4:(k:Int).tdiv 4=((k / 4:Nat):Int):=rfl;rw[if_pos (by omega),e4,d4,wi (((k / 4:Nat):Int)) (by omega),wi (((k % 4:Nat):Int) * 8) (by omega),wi (24-((k % 4:Nat):Int) * 8) (by omega),Yu (by omega),Zj (by omega),Yu hk,Zp hk (by omega)];have e:min (24-((k % 4:Nat):Int) * 8).toNat 32=24-(k % 4) * 8:=by omega
  rw[e];rfl
 ·simp only[Zhc]
  rw[if_neg (by omega)];rfl
theorem ZwO (h:Arr 8):Zht h=some (Zi8 h 32):=by
 unfold Zht;refine ZM (step:=Zfo h) (fun i=>((i:Int),Zi8 h (4 * i))) 8 (x:=some (Zi8 h 32)) (fun i hi=>?_) ?_
 ·simp only[Zfo]
  rw[if_pos (by omega),wi (4 * (i:Int)) (by omega),wi (4 * (i:Int)+1) (by omega),wi (4 * (i:Int)+2) (by omega),wi (4 * (i:Int)+3) (by omega),Yu hi,ZaV (i:=4 * i) (by omega) (by omega),ZaV (i:=4 * i+1) (by omega) (by omega),ZaV (i:=4 * i+2) (by omega) (by omega),ZaV (i:=4 * i+3) (by omega) (by omega),Zp hi (by omega)]
  have b0:byt h (4 * i)=IntKind.u8.wrap ((h.at i).fdiv 16777216):=by
   unfold byt;rw[show 4 * i / 4=i by omega,show 4 * i % 4=0 by omega];rfl
  have b1:byt h (4 * i+1)=IntKind.u8.wrap ((h.at i).fdiv 65536):=by
   unfold byt;rw[show(4 * i+1) / 4=i by omega,show(4 * i+1) % 4=1 by omega];rfl
  have b2:byt h (4 * i+2)=IntKind.u8.wrap ((h.at i).fdiv 256):=by
   unfold byt;rw[show(4 * i+2) / 4=i by omega,show(4 * i+2) % 4=2 by omega];rfl
  have b3:byt h (4 * i+3)=IntKind.u8.wrap (h.at i):=by
   unfold byt;rw[show(4 * i+3) / 4=i by omega,show(4 * i+3) % 4=3 by omega];show IntKind.u8.wrap ((h.at i).fdiv 1)=_
   rw[Int.fdiv_one]
  rw[show 4 * (i+1)=4 * i+3+1 by omega];simp only[Zi8];rw[b0,b1,b2,b3]
 ·simp only[Zfo]
  rw[if_neg (by omega)];rfl
noncomputable def ZaB (a:List Int):Arr 32:=Zi8 (hsh (a++Zah a.length) ((a.length+(Zah a.length).length) / 64)) 32
theorem ZmN (n:Nat):(n+(Zah n).length) % 64=0:=by
 rw[ZnS];unfold Zgs;omega
theorem ZwP {a b:List Int}(ha:a.length≤1000000000) (hb:b.length≤1000000000):ZiO [a,b]=some (a++b):=by
 unfold ZiO
 rw[Yx (s' := (1,a)) (by
  simp only[Zha];rw[if_pos (by simp),show(0:Int)=((0:Nat):Int) from rfl,Zi (by simp),Zj (by simp; omega)];simp[wi]),Yx (s' := (2,a++b)) (by
  simp only[Zha];rw[if_pos (by simp),show(1:Int)=((1:Nat):Int) from rfl,Zi (by simp),Zj (by simp; omega)]
  simp[wi])]
 refine Zag ?_;simp only[Zha];rw[if_neg (by simp)];rfl
theorem ZrY {a:List Int}(h:a.length≤100000000):ZhH a=some (ZaB a):=by
 have hp:=ZnS a.length;have hl:=Zna a.length;have ht:=ZmN a.length;unfold ZhH;rw[wu _ (by omega),ZwL (by omega),Za,ZwP (by omega) (by omega),Za];have hlen:(a++Zah a.length).length=a.length+(Zah a.length).length:=by simp
 have hd:((a++Zah a.length).length:Int).tdiv 64=(((a.length+(Zah a.length).length) / 64:Nat):Int):=by rw[hlen]; rfl
 refine ZM (step:=Zhd (a++Zah a.length)) (fun i=>((i:Int),hsh (a++Zah a.length) i)) ((a.length+(Zah a.length).length) / 64) (x:=some (ZaB a)) (fun i hi=>?_) ?_
 ·simp only[Zhd]
  rw[hd,wi (((a.length+(Zah a.length).length) / 64:Nat):Int) (by omega),if_pos (by omega),wi (64 * (i:Int)) (by omega),Zj (by omega),Zj (by omega),show(64 * (i:Int)).toNat=64 * i by omega,ZwK,Za,Zp hi (by omega)];rfl
 ·simp only[Zhd]
  rw[hd,wi (((a.length+(Zah a.length).length) / 64:Nat):Int) (by omega),if_neg (by omega),ZwN];rfl
theorem ZgP {a:List Int}(h:a.length≤100000000):YI a=some (ZaB a):=by
 have hp:=ZnS a.length;have hl:=Zna a.length;have ht:=ZmN a.length;unfold YI;rw[Zj (by omega),wu _ (by omega),ZwM (by omega),Za,Zj (by omega),inits,Za];have hlen:(a++Zah a.length).length=a.length+(Zah a.length).length:=by simp
 refine ZM (step:=Zfp a (Zah a.length)) (fun i=>((64 * i:Int),hsh (a++Zah a.length) i)) ((a.length+(Zah a.length).length) / 64) (x:=some (ZaB a)) (fun i hi=>?_) ?_
 ·simp only[Zfp]
  rw[wi (64 * (i:Int)+64) (by omega),if_pos (by omega),Zj (by omega),show(64 * (i:Int)).toNat=64 * i by omega,Zt8 (by rw[List.length_drop]; omega),Zvq,Za,show 64 * (i:Int)+64=64 * ((i+1:Nat):Int) by omega];rfl
 ·simp only[Zfp]
  rw[wi _ (by omega),if_neg (by omega),ZwO];rfl
theorem ZxN {a:List Int}(h:a.length≤100000000):ZfK a=some (ZaB (ZaB a).l):=by
 have:=(ZaB a).hl;unfold ZfK;rw[ZrY h,Za,ZrY (by omega)];rfl
theorem Znb {a:List Int}(h:a.length≤100000000):XQ a=some (ZaB (ZaB a).l):=by
 have:=(ZaB a).hl;unfold XQ;rw[ZgP h,Za,ZgP (by omega)];rfl
section
set_option maxRecDepth 100000
def Wd (x:Int) (n:Nat):Prop:=x=(n:Int)∧n<4294967296
noncomputable def aN (x y:Nat):Nat:=Nat.mod (Nat.add x y) 4294967296
noncomputable def rN (k x:Nat):Nat:=Nat.lor (Nat.mod (Nat.shiftLeft x (Nat.sub 32 k)) 4294967296) (Nat.shiftRight x k)
noncomputable def s0N (w:Nat):Nat:=Nat.xor (Nat.xor (rN 7 w) (rN 18 w)) (Nat.shiftRight w 3)
noncomputable def s1N (w:Nat):Nat:=Nat.xor (Nat.xor (rN 17 w) (rN 19 w)) (Nat.shiftRight w 10)
noncomputable def e1N (e:Nat):Nat:=Nat.xor (Nat.xor (rN 6 e) (rN 11 e)) (rN 25 e)
noncomputable def e0N (a:Nat):Nat:=Nat.xor (Nat.xor (rN 2 a) (rN 13 a)) (rN 22 a)
noncomputable def chN (e f g:Nat):Nat:=Nat.xor (Nat.land e f) (Nat.land (Nat.xor 4294967295 e) g)
noncomputable def mjN (a b c:Nat):Nat:=Nat.xor (Nat.xor (Nat.land a b) (Nat.land a c)) (Nat.land b c)
noncomputable def ZnT (w0 w1 w9 w14:Nat):Nat:=aN (aN (aN w0 (s0N w1)) w9) (s1N w14)
noncomputable def t1N (e f g h k w:Nat):Nat:=aN (aN (aN (aN h (e1N e)) (chN e f g)) k) w
noncomputable def t2N (a b c:Nat):Nat:=aN (e0N a) (mjN a b c)
theorem Zkn (n:Nat):IntKind.u32.wrap (n:Int)=((n % 4294967296:Nat):Int):=by
 rw[Zi7,show(2:Int) ^ 32=4294967296 from rfl];omega
theorem Zf2 {x y:Int}{n m:Nat}(h:Wd x n) (k:Wd y m):Wd (ad x y) (aN n m):=by
 obtain⟨rfl,h⟩:=h;obtain⟨rfl,k⟩:=k;refine⟨?_,Nat.mod_lt _ (by omega)⟩;show IntKind.u32.wrap ((n:Int)+(m:Int))=(((n+m) % 4294967296:Nat):Int)
 rw[Zi7,show(2:Int) ^ 32=4294967296 from rfl];omega
theorem Zlz {n:Nat}(h:n<4294967296):(bv (n:Int)).toNat=n:=by
 show(BitVec.ofInt 32 (n:Int)).toNat=n
 rw[BitVec.ofInt_natCast,BitVec.toNat_ofNat];omega
theorem ZhA {x y:Int}{n m:Nat}(h:Wd x n) (k:Wd y m):Wd (bits .xor .u32 x y) (Nat.xor n m):=by
 obtain⟨rfl,h⟩:=h;obtain⟨rfl,k⟩:=k;have lt:n ^^^ m<2 ^ 32:=Nat.xor_lt_two_pow (by omega) (by omega);refine⟨?_,lt⟩;show IntKind.u32.wrap ((bv (n:Int) ^^^ bv (m:Int)).toNat:Nat)=_
 rw[BitVec.toNat_xor,Zlz h,Zlz k,Zkn,Nat.mod_eq_of_lt (by omega)];rfl
theorem Zon {x y:Int}{n m:Nat}(h:Wd x n) (k:Wd y m):Wd (bits .and .u32 x y) (Nat.land n m):=by
 obtain⟨rfl,h⟩:=h;obtain⟨rfl,k⟩:=k;have lt:n &&& m<2 ^ 32:=Nat.and_lt_two_pow _ (by omega);refine⟨?_,lt⟩;show IntKind.u32.wrap ((bv (n:Int) &&& bv (m:Int)).toNat:Nat)=_
 rw[BitVec.toNat_and,Zlz h,Zlz k,Zkn,Nat.mod_eq_of_lt (by omega)];rfl
theorem or_W {x y:Int}{n m:Nat}(h:Wd x n) (k:Wd y m):Wd (bits .or .u32 x y) (Nat.lor n m):=by
 obtain⟨rfl,h⟩:=h;obtain⟨rfl,k⟩:=k;have lt:n ||| m<2 ^ 32:=Nat.or_lt_two_pow (by omega) (by omega)
 refine⟨?_,lt⟩;show IntKind.u32.wrap ((bv (n:Int) ||| bv (m:Int)).toNat:Nat)=_
 rw[BitVec.toNat_or,Zlz h,Zlz k,Zkn,Nat.mod_eq_of_lt (by omega)];rfl
theorem Zv3 (n k:Nat):((n:Int)).fdiv ((2 ^ k:Nat):Int)=((Nat.shiftRight n k:Nat):Int):=by
 rw[Int.fdiv_eq_ediv_of_nonneg _ (Int.natCast_nonneg _)];show((n / 2 ^ k:Nat):Int)=((n >>> k:Nat):Int)
 rw[Nat.shiftRight_eq_div_pow]
theorem ZsY {x c:Int}{n:Nat}(k:Nat) (hc:c=((2 ^ k:Nat):Int)) (h:Wd x n):Wd (x.fdiv c) (Nat.shiftRight n k):=by
 obtain⟨rfl,h⟩:=h;subst hc;refine⟨Zv3 n k,?_⟩;show n >>> k<4294967296
 rw[Nat.shiftRight_eq_div_pow];exact Nat.lt_of_le_of_lt (Nat.div_le_self _ _) h
theorem ZyZ {x:Int}{n:Nat}(j:Nat) (h:Wd x n):Wd (IntKind.u32.wrap (x * 2 ^ j)) (Nat.mod (Nat.shiftLeft n j) 4294967296):=by
 obtain⟨rfl,h⟩:=h;refine⟨?_,Nat.mod_lt _ (by omega)⟩
 have e:(n:Int) * 2 ^ j=((n <<< j:Nat):Int):=by
  rw[Nat.shiftLeft_eq,Int.natCast_mul,Int.natCast_pow];rfl
 rw[e,Zkn];rfl
theorem Zle {x ki:Int}{n:Nat}(k:Nat) (h1:min (bits .and .u64 (IntKind.u64.wrap (IntKind.i64.wrap (-ki))) 31).toNat 32=32-k) (h2:min (IntKind.u64.wrap (32-bits .and .u64 (IntKind.u64.wrap (IntKind.i64.wrap (-ki))) 31)).toNat 32=k) (h:Wd x n):Wd (rr x ki) (rN k n):=by
 unfold rr rot;rw[h1,h2];exact or_W (ZyZ (32-k) h) (ZsY k (by rw[Int.natCast_pow]; rfl) h)
theorem rr2 {x:Int}{n:Nat}(h:Wd x n):Wd (rr x 2) (rN 2 n):=Zle 2 (by kernel_rfl) (by kernel_rfl) h
theorem rr6 {x:Int}{n:Nat}(h:Wd x n):Wd (rr x 6) (rN 6 n):=Zle 6 (by kernel_rfl) (by kernel_rfl) h
theorem rr7 {x:Int}{n:Nat}(h:Wd x n):Wd (rr x 7) (rN 7 n):=Zle 7 (by kernel_rfl) (by kernel_rfl) h
theorem rr11 {x:Int}{n:Nat}(h:Wd x n):Wd (rr x 11) (rN 11 n):=Zle 11 (by kernel_rfl) (by kernel_rfl) h
theorem rr13 {x:Int}{n:Nat}(h:Wd x n):Wd (rr x 13) (rN 13 n):=Zle 13 (by kernel_rfl) (by kernel_rfl) h
theorem rr17 {x:Int}{n:Nat}(h:Wd x n):Wd (rr x 17) (rN 17 n):=Zle 17 (by kernel_rfl) (by kernel_rfl) h
theorem rr18 {x:Int}{n:Nat}(h:Wd x n):Wd (rr x 18) (rN 18 n):=Zle 18 (by kernel_rfl) (by kernel_rfl) h
theorem rr19 {x:Int}{n:Nat}(h:Wd x n):Wd (rr x 19) (rN 19 n):=Zle 19 (by kernel_rfl) (by kernel_rfl) h
theorem rr22 {x:Int}{n:Nat}(h:Wd x n):Wd (rr x 22) (rN 22 n):=Zle 22 (by kernel_rfl) (by kernel_rfl) h
theorem rr25 {x:Int}{n:Nat}(h:Wd x n):Wd (rr x 25) (rN 25 n):=Zle 25 (by kernel_rfl) (by kernel_rfl) h
theorem Zy0 {w:Arr 64}{i a b c d:Nat}(h0:Wd (w.at (i-16)) a) (h1:Wd (w.at (i-15)) b) (h9:Wd (w.at (i-7)) c) (h14:Wd (w.at (i-2)) d):Wd (Zvn w i) (ZnT a b c d) :=
 Zf2 (Zf2 (Zf2 h0 (ZhA (ZhA (rr7 h1) (rr18 h1)) (ZsY 3 rfl h1))) h9) (ZhA (ZhA (rr17 h14) (rr19 h14)) (ZsY 10 rfl h14))
def Sw (s:St8) (a b c d e f g h:Nat):Prop:=Wd s.1 a∧Wd s.2.1 b∧Wd s.2.2.1 c∧Wd s.2.2.2.1 d∧Wd s.2.2.2.2.1 e∧Wd s.2.2.2.2.2.1 f∧Wd s.2.2.2.2.2.2.1 g∧Wd s.2.2.2.2.2.2.2 h
theorem Zy1 {s:St8}{a b c d e f g h kn wn:Nat}{k w:Int}(hs:Sw s a b c d e f g h) (hk:Wd k kn) (hw:Wd w wn):Sw (rnd s k w) (aN (t1N e f g h kn wn) (t2N a b c)) a b c (aN d (t1N e f g h kn wn)) e f g:=by
 obtain⟨x1,x2,x3,x4,x5,x6,x7,x8⟩:=s;obtain⟨h1,h2,h3,h4,h5,h6,h7,h8⟩:=hs;have c1:Wd (4294967295:Int) 4294967295:=⟨rfl,by omega⟩
 have t1:Wd (t1 (x1,x2,x3,x4,x5,x6,x7,x8) k w) (t1N e f g h kn wn):=Zf2 (Zf2 (Zf2 (Zf2 h8 (ZhA (ZhA (rr6 h5) (rr11 h5)) (rr25 h5))) (ZhA (Zon h5 h6) (Zon (ZhA c1 h5) h7))) hk) hw;have t2:Wd (t2 (x1,x2,x3,x4,x5,x6,x7,x8)) (t2N a b c):=Zf2 (ZhA (ZhA (rr2 h1) (rr13 h1)) (rr22 h1)) (ZhA (ZhA (Zon h1 h2) (Zon h1 h3)) (Zon h2 h3));exact⟨Zf2 t1 t2,h1,h2,h3,Zf2 h4 t1,h5,h6,h7⟩
noncomputable def goN {β:Type}(q:Nat→Nat→Nat→Nat→Nat→Nat→Nat→Nat→β) (ks:List Nat):Nat→Nat→Nat→Nat→Nat→Nat→Nat→Nat→Nat→Nat→Nat→Nat→Nat→Nat→Nat→Nat→Nat→Nat→Nat→Nat→Nat→Nat→Nat→Nat→β :=
 List.rec (motive:=fun _=>Nat→Nat→Nat→Nat→Nat→Nat→Nat→Nat→Nat→Nat→Nat→Nat→Nat→Nat→Nat→Nat→Nat→Nat→Nat→Nat→Nat→Nat→Nat→Nat→β) (fun _ _ _ _ _ _ _ _ _ _ _ _ _ _ _ _ a b c d e f g h=>q a b c d e f g h) (fun k _ ih w0 w1 w2 w3 w4 w5 w6 w7 w8 w9 w10 w11 w12 w13 w14 w15 a b c d e f g h=>Zu (t1N e f g h k w0) fun t=>Zu (aN t (t2N a b c)) fun a'=>Zu (aN d t) fun e'=>Zu (ZnT w0 w1 w9 w14) fun w=>ih w1 w2 w3 w4 w5 w6 w7 w8 w9 w10 w11 w12 w13 w14 w15 w a' a b c e' e f g) ks
theorem Zvs {β:Type}(q:Nat→Nat→Nat→Nat→Nat→Nat→Nat→Nat→β) (k:Nat) (ks:List Nat) (w0 w1 w2 w3 w4 w5 w6 w7 w8 w9 w10 w11 w12 w13 w14 w15 a b c d e f g h:Nat):goN q (k :: ks) w0 w1 w2 w3 w4 w5 w6 w7 w8 w9 w10 w11 w12 w13 w14 w15 a b c d e f g h=goN q ks w1 w2 w3 w4 w5 w6 w7 w8 w9 w10 w11 w12 w13 w14 w15 (ZnT w0 w1 w9 w14) (aN (t1N e f g h k w0) (t2N a b c)) a b c (aN d (t1N e f g h k w0)) e f g:=by
 show Zu (t1N e f g h k w0) (fun t=>Zu (aN t (t2N a b c)) fun a'=>Zu (aN d t) fun e'=>Zu (ZnT w0 w1 w9 w14) fun w=>goN q ks w1 w2 w3 w4 w5 w6 w7 w8 w9 w10 w11 w12 w13 w14 w15 w a' a b c e' e f g)=_
 rw[ZP,ZP,ZP,ZP]
theorem ZrZ (w:Arr 64){t:Nat}:∀ {k k':Nat},k'≤k→t<16+k'→(ZhS w k).at t=(ZhS w k').at t:=by
 intro k;induction k with
 | zero=>intro k' h _; rw[show k'=0 by omega]
 | succ k ih =>
  intro k' h ht;by_cases e:k'=k+1
  ·rw[e]
  ·show((ZhS w k).put (16+k) _).at t=_
   rw[Arr.at_put_ne _ (by omega)];exact ih (by omega) ht
theorem Zvt (b:Arr 64){t:Nat}(h:16+t<64):(XZ b).at (16+t)=Zvn (ZhS (Zf1 b 16) t) (16+t):=by
 unfold XZ;rw[ZrZ (k' := t+1) _ (by omega) (by omega)];show((ZhS (Zf1 b 16) t).put (16+t) _).at (16+t)=_
 rw[Arr.at_put _ h]
theorem ZkP (b:Arr 64){t j:Nat}(h:j<16+t) (ht:t≤48):(ZhS (Zf1 b 16) t).at j=(XZ b).at j:=(ZrZ _ ht h).symm
theorem ZwQ (b:Arr 64){t:Nat}:∀ {i:Nat},t<i→i≤64→(Zf1 b i).at t=wd b t 4:=by
 intro i;induction i with
 | zero=>intro h _; omega
 | succ i ih =>
  intro h hi;by_cases e:t=i
  ·subst e
   exact Arr.at_put _ (by omega) _
  ·show((Zf1 b i).put i _).at t=_
   rw[Arr.at_put_ne _ (by omega)];exact ih (by omega) (by omega)
theorem Zvu (b:Arr 64){t:Nat}(h:t<16):(XZ b).at t=wd b t 4:=by
 rw[← ZkP b (t:=0) (by omega) (by omega)];exact ZwQ b h (by omega)
theorem ZxP {β:Type}(q:Nat→Nat→Nat→Nat→Nat→Nat→Nat→Nat→β) (bl:Arr 64) (st:St8):∀ (ks:List Nat) (i:Nat),i+ks.length=64→(∀ j,j<ks.length→Wd (shaK.at (i+j)) (ks.getD j 0))→∀ (w0 w1 w2 w3 w4 w5 w6 w7 w8 w9 w10 w11 w12 w13 w14 w15 a b c d e f g h:Nat),(∀ j,j<16→i+j<64→Wd ((XZ bl).at (i+j)) ([w0,w1,w2,w3,w4,w5,w6,w7,w8,w9,w10,w11,w12,w13,w14,w15].getD j 0))→Sw (Ziy (XZ bl) st i) a b c d e f g h →
  ∃ a' b' c' d' e' f' g' h',goN q ks w0 w1 w2 w3 w4 w5 w6 w7 w8 w9 w10 w11 w12 w13 w14 w15 a b c d e f g h=q a' b' c' d' e' f' g' h'∧Sw (Ziy (XZ bl) st 64) a' b' c' d' e' f' g' h' := by
 intro ks;induction ks with
 | nil =>
  intro i hi _ w0 w1 w2 w3 w4 w5 w6 w7 w8 w9 w10 w11 w12 w13 w14 w15 a b c d e f g h _ hs;obtain rfl:i=64:=by simpa using hi
  exact⟨_,_,_,_,_,_,_,_,rfl,hs⟩
 | cons k ks ih =>
  intro i hi hk w0 w1 w2 w3 w4 w5 w6 w7 w8 w9 w10 w11 w12 w13 w14 w15 a b c d e f g h hw hs;rw[List.length_cons] at hi;rw[Zvs];have k0:Wd (shaK.at i) k:=hk 0 (by simp);have w0':Wd ((XZ bl).at i) w0:=hw 0 (by omega) (by omega);refine ih (i+1) (by omega) (fun j hj=>?_) w1 w2 w3 w4 w5 w6 w7 w8 w9 w10 w11 w12 w13 w14 w15 _ _ _ _ _ _ _ _ _ (fun j hj hij=>?_) (Zy1 hs k0 w0')
  ·have:=hk (j+1) (by simpa using hj)
   rw[show i+1+j=i+(j+1) by omega];exact this
  ·by_cases e:j=15
   ·subst e
    show Wd _ (ZnT w0 w1 w9 w14)
    rw[show i+1+15=16+i by omega,Zvt bl (by omega)];refine Zy0 ?_ ?_ ?_ ?_
    ·rw[show 16+i-16=i by omega,ZkP bl (by omega) (by omega)]
     exact w0'
    ·rw[show 16+i-15=i+1 by omega,ZkP bl (by omega) (by omega)]
     exact hw 1 (by omega) (by omega)
    ·rw[show 16+i-7=i+9 by omega,ZkP bl (by omega) (by omega)]
     exact hw 9 (by omega) (by omega)
    ·rw[show 16+i-2=i+14 by omega,ZkP bl (by omega) (by omega)]
     exact hw 14 (by omega) (by omega)
   ·have:=hw (j+1) (by omega) (by omega)
    rw[show i+1+j=i+(j+1) by omega]
    have e2:([w1,w2,w3,w4,w5,w6,w7,w8,w9,w10,w11,w12,w13,w14,w15]++[ZnT w0 w1 w9 w14]).getD j 0=[w1,w2,w3,w4,w5,w6,w7,w8,w9,w10,w11,w12,w13,w14,w15].getD j 0:=by
     simp only[List.getD_eq_getElem?_getD];rw[List.getElem?_append_left (by simp; omega)]
    show Wd _ (([w1,w2,w3,w4,w5,w6,w7,w8,w9,w10,w11,w12,w13,w14,w15]++[ZnT w0 w1 w9 w14]).getD j 0)
    rw[e2];exact this
noncomputable def ZkQ (y:List Nat):Nat→Nat:=List.rec (motive:=fun _=>Nat→Nat) (fun _=>0) (fun a _ ih q=>Nat.rec (motive:=fun _=>Nat) a (fun m _=>ih m) q) y
theorem ZwR (y:List Nat):∀ q,ZkQ y q=y.getD q 0:=by
 induction y with
 | nil=>intro q; simp[ZkQ]
 | cons a y ih =>
  intro q;cases q with
  | zero=>rfl
  | succ q =>
   show ZkQ y q=_
   rw[ih];simp
noncomputable def wdN (x y:Nat):Nat:=Nat.lor (Nat.mod (Nat.mul x 256) 4294967296) (Nat.mod y 4294967296)
noncomputable def ZH (y:List Nat) (p:Nat):Nat:=wdN (wdN (wdN (wdN 0 (ZkQ y p)) (ZkQ y (Nat.add p 1))) (ZkQ y (Nat.add p 2))) (ZkQ y (Nat.add p 3))
theorem Zp1 {x z:Int}{n m:Nat}(h:Wd x n) (k:z=(m:Int)):Wd (bits .or .u32 (IntKind.u32.wrap (x * 256)) (IntKind.u32.wrap z)) (wdN n m):=by
 obtain⟨rfl,h⟩:=h;subst k;refine or_W ⟨?_,Nat.mod_lt _ (by omega)⟩ ⟨Zkn m,Nat.mod_lt _ (by omega)⟩;rw[show(n:Int) * 256=((n * 256:Nat):Int) by omega,Zkn];rfl
theorem ZxQ {bl:Arr 64}{y:List Nat}{p i:Nat}(h:∀ j,j<64→bl.at j=((y.getD (p+j) 0:Nat):Int)) (hi:i<16):Wd (wd bl i 4) (ZH y (p+4 * i)):=by
 have z:Wd (0:Int) 0:=⟨rfl,by omega⟩
 have g:∀ j,j<4→bl.at (4 * i+j)=((ZkQ y (p+4 * i+j):Nat):Int):=fun j hj=>by
  rw[h _ (by omega),ZwR,Nat.add_assoc]
 exact Zp1 (Zp1 (Zp1 (Zp1 z (g 0 (by omega))) (g 1 (by omega))) (g 2 (by omega))) (g 3 (by omega))
noncomputable def kN:List Nat:=[1116352408,1899447441,3049323471,3921009573,961987163,1508970993,2453635748,2870763221,3624381080,310598401,607225278,1426881987,1925078388,2162078206,2614888103,3248222580,3835390401,4022224774,264347078,604807628,770255983,1249150122,1555081692,1996064986,2554220882,2821834349,2952996808,3210313671,3336571891,3584528711,113926993,338241895,666307205,773529912,1294757372,1396182291,1695183700,1986661051,2177026350,2456956037,2730485921,2820302411,3259730800,3345764771,3516065817,3600352804,4094571909,275423344,430227734,506948616,659060556,883997877,958139571,1322822218,1537002063,1747873779,1955562222,2024104815,2227730452,2361852424,2428436474,2756734187,3204031479,3329325298]
theorem kN_ok:shaK.l=kN.map Int.ofNat∧kN.all (fun n=>decide (n<4294967296))=true:=by constructor <;> kernel_rfl
theorem kN_W {j:Nat}(h:j<64):Wd (shaK.at j) (kN.getD j 0):=by
 have hl:kN.length=64:=rfl
 have e:shaK.at j=((kN.getD j 0:Nat):Int):=by
  unfold Arr.at;rw[kN_ok.1];simp only[List.getD_eq_getElem?_getD,List.getElem?_map];rw[List.getElem?_eq_getElem (by omega)];rfl
 refine⟨e,?_⟩
 have:=List.all_eq_true.1 kN_ok.2 (kN.getD j 0) (by
  simp only[List.getD_eq_getElem?_getD];rw[List.getElem?_eq_getElem (by omega)]
  exact List.getElem_mem _)
 simpa using this
noncomputable def Znc (y:List Nat) (n:Nat):Nat→Nat→Nat→Nat→Nat→Nat→Nat→Nat→Nat→List Nat :=
 Nat.rec (motive:=fun _=>Nat→Nat→Nat→Nat→Nat→Nat→Nat→Nat→Nat→List Nat) (fun _ a b c d e f g h=>[a,b,c,d,e,f,g,h]) (fun _ ih p a b c d e f g h=>Zu (ZH y (Nat.add p 0)) fun w0=>Zu (ZH y (Nat.add p 4)) fun w1=>Zu (ZH y (Nat.add p 8)) fun w2=>Zu (ZH y (Nat.add p 12)) fun w3=>Zu (ZH y (Nat.add p 16)) fun w4=>Zu (ZH y (Nat.add p 20)) fun w5=>Zu (ZH y (Nat.add p 24)) fun w6=>Zu (ZH y (Nat.add p 28)) fun w7=>Zu (ZH y (Nat.add p 32)) fun w8=>Zu (ZH y (Nat.add p 36)) fun w9=>Zu (ZH y (Nat.add p 40)) fun w10=>Zu (ZH y (Nat.add p 44)) fun w11=>Zu (ZH y (Nat.add p 48)) fun w12=>Zu (ZH y (Nat.add p 52)) fun w13=>Zu (ZH y (Nat.add p 56)) fun w14=>Zu (ZH y (Nat.add p 60)) fun w15=>goN (fun a' b' c' d' e' f' g' h'=>Zu (aN a a') fun a''=>Zu (aN b b') fun b''=>Zu (aN c c') fun c''=>Zu (aN d d') fun d''=>Zu (aN e e') fun e''=>Zu (aN f f') fun f''=>Zu (aN g g') fun g''=>Zu (aN h h') fun h''=>Zu (Nat.add p 64) fun p=>ih p a'' b'' c'' d'' e'' f'' g'' h'') kN w0 w1 w2 w3 w4 w5 w6 w7 w8 w9 w10 w11 w12 w13 w14 w15 a b c d e f g h) n
def A8 (x:Arr 8) (a b c d e f g h:Nat):Prop:=Sw (st0 x) a b c d e f g h
theorem ZxR {x:Arr 8}{bl:Arr 64}{a b c d e f g h a' b' c' d' e' f' g' h':Nat}(hx:A8 x a b c d e f g h) (hs:Sw (Ziy (XZ bl) (st0 x) 64) a' b' c' d' e' f' g' h'):A8 (Zl7 x bl) (aN a a') (aN b b') (aN c c') (aN d d') (aN e e') (aN f f') (aN g g') (aN h h'):=by
 unfold Zl7 A8;generalize Ziy (XZ bl) (st0 x) 64=r at hs ⊢;obtain⟨y1,y2,y3,y4,y5,y6,y7,y8⟩:=r;obtain⟨h1,h2,h3,h4,h5,h6,h7,h8⟩:=hs;obtain⟨k1,k2,k3,k4,k5,k6,k7,k8⟩:=hx;try dsimp only at h1 h2 h3 h4 h5 h6 h7 h8
 refine⟨?_,?_,?_,?_,?_,?_,?_,?_⟩
 ·show Wd ((((((((((zA 8).put 0 (ad (x.at 0) y1)).put 1 (ad (x.at 1) y2)).put 2 (ad (x.at 2) y3)).put 3 (ad (x.at 3) y4)).put 4 (ad (x.at 4) y5)).put 5 (ad (x.at 5) y6)).put 6 (ad (x.at 6) y7)).put 7 (ad (x.at 7) y8)).at 0) _
  rw[Arr.at_put_ne _ (by omega),Arr.at_put_ne _ (by omega),Arr.at_put_ne _ (by omega),Arr.at_put_ne _ (by omega),Arr.at_put_ne _ (by omega),Arr.at_put_ne _ (by omega),Arr.at_put_ne _ (by omega),Arr.at_put _ (by omega)];exact Zf2 k1 h1
 ·show Wd ((((((((((zA 8).put 0 (ad (x.at 0) y1)).put 1 (ad (x.at 1) y2)).put 2 (ad (x.at 2) y3)).put 3 (ad (x.at 3) y4)).put 4 (ad (x.at 4) y5)).put 5 (ad (x.at 5) y6)).put 6 (ad (x.at 6) y7)).put 7 (ad (x.at 7) y8)).at 1) _
  rw[Arr.at_put_ne _ (by omega),Arr.at_put_ne _ (by omega),Arr.at_put_ne _ (by omega),Arr.at_put_ne _ (by omega),Arr.at_put_ne _ (by omega),Arr.at_put_ne _ (by omega),Arr.at_put _ (by omega)];exact Zf2 k2 h2
 ·show Wd ((((((((((zA 8).put 0 (ad (x.at 0) y1)).put 1 (ad (x.at 1) y2)).put 2 (ad (x.at 2) y3)).put 3 (ad (x.at 3) y4)).put 4 (ad (x.at 4) y5)).put 5 (ad (x.at 5) y6)).put 6 (ad (x.at 6) y7)).put 7 (ad (x.at 7) y8)).at 2) _
  rw[Arr.at_put_ne _ (by omega),Arr.at_put_ne _ (by omega),Arr.at_put_ne _ (by omega),Arr.at_put_ne _ (by omega),Arr.at_put_ne _ (by omega),Arr.at_put _ (by omega)];exact Zf2 k3 h3
 ·show Wd ((((((((((zA 8).put 0 (ad (x.at 0) y1)).put 1 (ad (x.at 1) y2)).put 2 (ad (x.at 2) y3)).put 3 (ad (x.at 3) y4)).put 4 (ad (x.at 4) y5)).put 5 (ad (x.at 5) y6)).put 6 (ad (x.at 6) y7)).put 7 (ad (x.at 7) y8)).at 3) _
  rw[Arr.at_put_ne _ (by omega),Arr.at_put_ne _ (by omega),Arr.at_put_ne _ (by omega),Arr.at_put_ne _ (by omega),Arr.at_put _ (by omega)];exact Zf2 k4 h4
 ·show Wd ((((((((((zA 8).put 0 (ad (x.at 0) y1)).put 1 (ad (x.at 1) y2)).put 2 (ad (x.at 2) y3)).put 3 (ad (x.at 3) y4)).put 4 (ad (x.at 4) y5)).put 5 (ad (x.at 5) y6)).put 6 (ad (x.at 6) y7)).put 7 (ad (x.at 7) y8)).at 4) _
  rw[Arr.at_put_ne _ (by omega),Arr.at_put_ne _ (by omega),Arr.at_put_ne _ (by omega),Arr.at_put _ (by omega)];exact Zf2 k5 h5
 ·show Wd ((((((((((zA 8).put 0 (ad (x.at 0) y1)).put 1 (ad (x.at 1) y2)).put 2 (ad (x.at 2) y3)).put 3 (ad (x.at 3) y4)).put 4 (ad (x.at 4) y5)).put 5 (ad (x.at 5) y6)).put 6 (ad (x.at 6) y7)).put 7 (ad (x.at 7) y8)).at 5) _
  rw[Arr.at_put_ne _ (by omega),Arr.at_put_ne _ (by omega),Arr.at_put _ (by omega)];exact Zf2 k6 h6
 ·show Wd ((((((((((zA 8).put 0 (ad (x.at 0) y1)).put 1 (ad (x.at 1) y2)).put 2 (ad (x.at 2) y3)).put 3 (ad (x.at 3) y4)).put 4 (ad (x.at 4) y5)).put 5 (ad (x.at 5) y6)).put 6 (ad (x.at 6) y7)).put 7 (ad (x.at 7) y8)).at 6) _
  rw[Arr.at_put_ne _ (by omega),Arr.at_put _ (by omega)];exact Zf2 k7 h7
 ·show Wd ((((((((((zA 8).put 0 (ad (x.at 0) y1)).put 1 (ad (x.at 1) y2)).put 2 (ad (x.at 2) y3)).put 3 (ad (x.at 3) y4)).put 4 (ad (x.at 4) y5)).put 5 (ad (x.at 5) y6)).put 6 (ad (x.at 6) y7)).put 7 (ad (x.at 7) y8)).at 7) _
  rw[Arr.at_put _ (by omega)];exact Zf2 k8 h8
theorem ZsZ (y:List Nat) (n p a b c d e f g h:Nat):Znc y (n+1) p a b c d e f g h=(Zu (ZH y (Nat.add p 0)) fun w0=>Zu (ZH y (Nat.add p 4)) fun w1=>Zu (ZH y (Nat.add p 8)) fun w2=>Zu (ZH y (Nat.add p 12)) fun w3=>Zu (ZH y (Nat.add p 16)) fun w4=>Zu (ZH y (Nat.add p 20)) fun w5=>Zu (ZH y (Nat.add p 24)) fun w6=>Zu (ZH y (Nat.add p 28)) fun w7=>Zu (ZH y (Nat.add p 32)) fun w8=>Zu (ZH y (Nat.add p 36)) fun w9=>Zu (ZH y (Nat.add p 40)) fun w10=>Zu (ZH y (Nat.add p 44)) fun w11=>Zu (ZH y (Nat.add p 48)) fun w12=>Zu (ZH y (Nat.add p 52)) fun w13=>Zu (ZH y (Nat.add p 56)) fun w14=>Zu (ZH y (Nat.add p 60)) fun w15=>goN (fun a' b' c' d' e' f' g' h'=>Zu (aN a a') fun a''=>Zu (aN b b') fun b''=>Zu (aN c c') fun c''=>Zu (aN d d') fun d''=>Zu (aN e e') fun e''=>Zu (aN f f') fun f''=>Zu (aN g g') fun g''=>Zu (aN h h') fun h''=>Zu (Nat.add p 64) fun p=>Znc y n p a'' b'' c'' d'' e'' f'' g'' h'') kN w0 w1 w2 w3 w4 w5 w6 w7 w8 w9 w10 w11 w12 w13 w14 w15 a b c d e f g h):=rfl
theorem Zvv {y:List Int}{yN:List Nat}{N:Nat}(hl:y.length=64 * N) (hy:y=yN.map Int.ofNat):∀ (n i:Nat),i+n=N→∀ (a b c d e f g h:Nat),A8 (hsh y i) a b c d e f g h→∃ a' b' c' d' e' f' g' h',Znc yN n (64 * i) a b c d e f g h=[a',b',c',d',e',f',g',h']∧A8 (hsh y N) a' b' c' d' e' f' g' h' := by
 intro n;induction n with
 | zero =>
  intro i hi a b c d e f g h hs;obtain rfl:i=N:=by omega
  exact⟨_,_,_,_,_,_,_,_,rfl,hs⟩
 | succ n ih =>
  intro i hi a b c d e f g h hs
  have hb:∀ j,j<64→(blk y i).at j=((yN.getD (64 * i+j) 0:Nat):Int):=fun j hj=>by
   have hll:64≤(y.drop (64 * i)).length:=by rw[List.length_drop]; omega
   have hN:yN.length=y.length:=by rw[hy]; simp
   unfold blk ZnP;rw[dif_pos hll];unfold Arr.at;simp only[List.getD_eq_getElem?_getD];rw[List.getElem?_take_of_lt hj,List.getElem?_drop,hy,List.getElem?_map,List.getElem?_eq_getElem (by omega)];rfl
  obtain⟨a',b',c',d',e',f',g',h',g1,g2⟩:=ZxP (fun a' b' c' d' e' f' g' h'=>Zu (aN a a') fun a''=>Zu (aN b b') fun b''=>Zu (aN c c') fun c''=>Zu (aN d d') fun d''=>Zu (aN e e') fun e''=>Zu (aN f f') fun f''=>Zu (aN g g') fun g''=>Zu (aN h h') fun h''=>Zu (Nat.add (64 * i) 64) fun p=>Znc yN n p a'' b'' c'' d'' e'' f'' g'' h'') (blk y i) (st0 (hsh y i)) kN 0 rfl (fun j hj=>by rw[Nat.zero_add]; exact kN_W hj) (ZH yN (64 * i+0)) (ZH yN (64 * i+4)) (ZH yN (64 * i+8)) (ZH yN (64 * i+12)) (ZH yN (64 * i+16)) (ZH yN (64 * i+20)) (ZH yN (64 * i+24)) (ZH yN (64 * i+28)) (ZH yN (64 * i+32)) (ZH yN (64 * i+36)) (ZH yN (64 * i+40)) (ZH yN (64 * i+44)) (ZH yN (64 * i+48)) (ZH yN (64 * i+52)) (ZH yN (64 * i+56)) (ZH yN (64 * i+60)) a b c d e f g h (fun j hj _=>by
   rw[Nat.zero_add,Zvu _ hj];have:=ZxQ (p:=64 * i) hb hj
   have e:[ZH yN (64 * i+0),ZH yN (64 * i+4),ZH yN (64 * i+8),ZH yN (64 * i+12),ZH yN (64 * i+16),ZH yN (64 * i+20),ZH yN (64 * i+24),ZH yN (64 * i+28),ZH yN (64 * i+32),ZH yN (64 * i+36),ZH yN (64 * i+40),ZH yN (64 * i+44),ZH yN (64 * i+48),ZH yN (64 * i+52),ZH yN (64 * i+56),ZH yN (64 * i+60)].getD j 0=ZH yN (64 * i+4 * j):=by
    rcases(show j=0∨j=1∨j=2∨j=3∨j=4∨j=5∨j=6∨j=7∨j=8∨j=9∨j=10∨j=11∨j=12∨j=13∨j=14∨j=15 by omega) with rfl | rfl | rfl | rfl | rfl | rfl | rfl | rfl | rfl | rfl | rfl | rfl | rfl | rfl | rfl | rfl <;> rfl
   rw[e]
   exact this) hs
  have hc:=ZxR hs g2;obtain⟨a2,b2,c2,d2,e2,f2,g2',h2,r1,r2⟩:=ih (i+1) (by omega) _ _ _ _ _ _ _ _ hc;refine⟨a2,b2,c2,d2,e2,f2,g2',h2,?_,r2⟩;rw[← r1,ZsZ];refine(ZP _ _).trans ?_;refine(ZP _ _).trans ?_;refine(ZP _ _).trans ?_;refine(ZP _ _).trans ?_;refine(ZP _ _).trans ?_;refine(ZP _ _).trans ?_;refine(ZP _ _).trans ?_;refine(ZP _ _).trans ?_;refine(ZP _ _).trans ?_;refine(ZP _ _).trans ?_;refine(ZP _ _).trans ?_;refine(ZP _ _).trans ?_;refine(ZP _ _).trans ?_;refine(ZP _ _).trans ?_;refine(ZP _ _).trans ?_;refine(ZP _ _).trans ?_;refine Eq.trans g1 ?_;refine(ZP _ _).trans ?_;refine(ZP _ _).trans ?_;refine(ZP _ _).trans ?_;refine(ZP _ _).trans ?_;refine(ZP _ _).trans ?_;refine(ZP _ _).trans ?_;refine(ZP _ _).trans ?_;refine(ZP _ _).trans ?_;exact ZP _ _
noncomputable def Zs0 (s:List Nat):Arr 32:=⟨(List.range 32).map fun k=>Int.ofNat (Nat.mod (Nat.shiftRight (ZkQ s (Nat.div k 4)) (Nat.sub 24 (Nat.mul (Nat.mod k 4) 8))) 256),by simp⟩
theorem ZwS (x:Arr 8){k:Nat}:∀ {n:Nat},k<n→n≤32→(Zi8 x n).at k=byt x k:=by
 intro n;induction n with
 | zero=>intro h _; omega
 | succ n ih =>
  intro h hn;show((Zi8 x n).put n _).at k=_
  by_cases e:k=n
  ·subst e
   exact Arr.at_put _ (by omega) _
  ·rw[Arr.at_put_ne _ (by omega)]
   exact ih (by omega) (by omega)
theorem ZwT {x:Arr 8}{a b c d e f g h:Nat}(hx:A8 x a b c d e f g h):Zs0 [a,b,c,d,e,f,g,h]=Zi8 x 32:=by
 apply Arr.ext
 intro k hk;rw[ZwS x hk (by omega)]
 have hw:Wd (x.at (k / 4)) (ZkQ [a,b,c,d,e,f,g,h] (k / 4)):=by
  obtain⟨h1,h2,h3,h4,h5,h6,h7,h8⟩:=hx;rcases(show k / 4=0∨k / 4=1∨k / 4=2∨k / 4=3∨k / 4=4∨k / 4=5∨k / 4=6∨k / 4=7 by omega) with h | h | h | h | h | h | h | h <;> rw[h]
  ·exact h1
  ·exact h2
  ·exact h3
  ·exact h4
  ·exact h5
  ·exact h6
  ·exact h7
  ·exact h8
 obtain⟨ew,_⟩:=hw
 have e2:(Zs0 [a,b,c,d,e,f,g,h]).at k=Int.ofNat (Nat.mod (Nat.shiftRight (ZkQ [a,b,c,d,e,f,g,h] (Nat.div k 4)) (Nat.sub 24 (Nat.mul (Nat.mod k 4) 8))) 256):=by
  unfold Arr.at Zs0;simp only[List.getD_eq_getElem?_getD,List.getElem?_map];rw[List.getElem?_range hk];rfl
 rw[e2];unfold byt;rw[ew,show(2:Int) ^ (24-k % 4 * 8)=((2 ^ (24-k % 4 * 8):Nat):Int) by rw[Int.natCast_pow]; rfl,Zv3]
 have u8:∀ m:Nat,IntKind.u8.wrap (m:Int)=((m % 256:Nat):Int):=fun m=>by
  simp[IntKind.wrap,IntKind.signed,IntKind.bits]
 rw[u8];rfl
noncomputable def toN (l:List Int):List Nat:=l.map Int.toNat
noncomputable def ZjU (l:List Int):Bool:=l.all fun x=>Int.rec (motive:=fun _=>Bool) (fun n=>Nat.ble n 255) (fun _=>false) x
theorem Zvw {l:List Int}(h:ZjU l=true):l=(toN l).map Int.ofNat:=by
 induction l with
 | nil=>rfl
 | cons x l ih =>
  unfold ZjU at h;rw[List.all_cons,Bool.and_eq_true] at h;have:=ih h.2;cases x with
  | ofNat n =>
   show Int.ofNat n :: l=Int.ofNat n :: (toN l).map Int.ofNat
   rw[← this]
  | negSucc n=>cases h.1
theorem Zvx {l m:List Int}(h:ZjU l=true) (k:ZjU m=true):ZjU (l++m)=true:=by
 unfold ZjU at *;rw[List.all_append,h,k];rfl
theorem ZwU {l:List Int}(h:∀ x∈l,0≤x∧x≤255):ZjU l=true:=by
 unfold ZjU;refine List.all_eq_true.2 fun x hx=>?_
 obtain⟨h0,h1⟩:=h x hx;cases x with
 | ofNat n =>
  have:(n:Int)≤255:=h1;show Nat.ble n 255=true
  rw[Nat.ble_eq];omega
 | negSucc n=>exact absurd h0 (by simp)
theorem Zvy (n:Nat):ZjU (Zah n)=true:=by
 refine ZwU fun x hx=>?_
 unfold Zah at hx;rcases List.mem_append.1 hx with hx | hx
 ·rcases List.mem_cons.1 hx with rfl | hx
  ·omega
  ·obtain⟨_,rfl⟩:=List.mem_replicate.1 hx
   omega
 ·obtain⟨j,_,rfl⟩:=List.mem_map.1 hx
  unfold ZoT;have:∀ x:Int,IntKind.u8.wrap x=x % 2 ^ 8:=fun x=>by simp[IntKind.wrap,IntKind.signed,IntKind.bits]
  rw[this,show(2:Int) ^ 8=256 from rfl];omega
noncomputable def Zvz (l:List Int):Arr 32:=Yc.force (toN (l++Zah l.length)) fun y=>Yc.force (Znc y (Nat.div (Nat.add l.length (Zah l.length).length) 64) 0 1779033703 3144134277 1013904242 2773480762 1359893119 2600822924 528734635 1541459225) Zs0
theorem ZwV {l:List Int}(h:ZjU l=true):Zvz l=ZaB l:=by
 unfold Zvz ZaB;rw[Yc.eq,Yc.eq];have hy:=Zvw (Zvx h (Zvy l.length))
 have hl:(l++Zah l.length).length=64 * ((l.length+(Zah l.length).length) / 64):=by
  have:=ZmN l.length;rw[List.length_append];omega
 obtain⟨a',b',c',d',e',f',g',h',g1,g2⟩:=Zvv hl hy ((l.length+(Zah l.length).length) / 64) 0 (by omega) 1779033703 3144134277 1013904242 2773480762 1359893119 2600822924 528734635 1541459225 ⟨⟨rfl,by omega⟩,⟨rfl,by omega⟩,⟨rfl,by omega⟩,⟨rfl,by omega⟩,⟨rfl,by omega⟩,⟨rfl,by omega⟩,⟨rfl,by omega⟩,⟨rfl,by omega⟩⟩;have g3:Znc (toN (l++Zah l.length)) (Nat.div (Nat.add l.length (Zah l.length).length) 64) 0 1779033703 3144134277 1013904242 2773480762 1359893119 2600822924 528734635 1541459225=_:=g1;rw[g3,ZwT g2]
noncomputable def ZnU (l:List Int):Option (Arr 32):=Bool.rec (motive:=fun _=>Option (Arr 32)) none (some (Zvz l)) (and (ZjU l) (Nat.ble l.length 100000))
theorem ZmO {l:List Int}{r:Arr 32}(h:ZnU l=some r):r=ZaB l∧l.length≤100000:=by
 unfold ZnU at h;cases hc:(and (ZjU l) (Nat.ble l.length 100000)) with
 | false=>rw[hc] at h; cases h
 | true =>
  rw[hc] at h;have h:=Option.some.inj h;have h2:=Bool.and_eq_true_iff.1 hc;exact⟨by rw[← h,ZwV h2.1],Nat.le_of_ble_eq_true h2.2⟩
noncomputable def ZkR (l:List Int):Option (Arr 32):=(ZnU l).bindF fun a=>ZnU a.l
theorem ZvA (l:List Int):Le (ZnU l) (YI l):=fun r h=>by
 obtain⟨rfl,hl⟩:=ZmO h;exact ZgP (by omega)
theorem ZmP {l:List Int}{r:Arr 32}(h:ZkR l=some r):r=ZaB (ZaB l).l∧l.length≤100000:=by
 unfold ZkR at h;rw[ZqH] at h;obtain⟨a,ha,h⟩:=Option.bind_eq_some_iff.1 h;obtain⟨rfl,hl⟩:=ZmO ha;exact⟨(ZmO h).1,hl⟩
theorem ZvB (l:List Int):Le (ZkR l) (XQ l):=fun r h=>by
 obtain⟨rfl,hl⟩:=ZmP h;exact Znb (by omega)
end
section
open Go.Sort
theorem Znd (x y:Int):Y1 x y=some (ltInt x y):=by simp[Y1,XV,ltInt]
theorem gA {d:Array Int}{i:Nat}(h:i<d.size):d.toList[i]? = some d[i]! := by
 rw[getElem!_pos d i h];simp[h]
theorem gB {β:Type}{d:Array Int}{i:Nat}{f:Int→Option β}(h:i<d.size):(d.toList[i]?).bind f=f d[i]! := by rw[gA h]; rfl
theorem iB {β:Type}{d:Array Int}{i:Nat}{f:Nat→Option β}(h:i<d.size):(inA d.toList.length (i:Int)).bind f=f i:=Yu (by simpa using h)
theorem iB1 {β:Type}{d:Array Int}{i j:Nat}{x:Int}{f:Nat→Option β}(h:i<d.size):(inA (d.toList.set j x).length (i:Int)).bind f=f i:=Yu (by simpa using h)
theorem swpL (d:Array Int) (i j:Nat):(d.toList.set i d[j]!).set j d[i]! = (swp d i j).toList:=by simp[swp]
theorem sB {β:Type}(x:Bool) (f:Bool→Option β):(some x).bind f=f x:=rfl
theorem wI (n:Nat) (h:n<9223372036854775808):IntKind.i64.wrap (n:Int)=(n:Int):=wi _ (by omega)
theorem wS {i:Nat}(h:i<9223372036854775807):IntKind.i64.wrap ((i:Int)+1)=((i+1:Nat):Int):=by rw[wi _ (by omega)]; omega
theorem wP {i:Nat}(h:i<9223372036854775807):IntKind.i64.wrap (((i+1:Nat):Int)-1)=(i:Int):=by rw[wi _ (by omega)]; omega
theorem ZhB (lt:Int→Int→Bool) (a:Nat):∀ (j:Nat) (d:Array Int),(insInner lt a j d).size=d.size
 | 0,d=>by rw[insInner]
 | j+1,d=>by
  rw[insInner];split
  ·rw[ZhB lt a j,size_swp]
  ·rfl
theorem Zpy (a:Nat) (i:Int):∀ (j:Nat) (d:Array Int),j<d.size→d.size<4611686018427387904→Zd (ZI (a:Int) i) ((j:Int),d.toList)=ZU i (insInner ltInt a j d).toList
 | 0,d,hj,hs=>by
  rw[insInner];refine Zag ?_;have h:¬ ((a:Int)<((0:Nat):Int)):=by omega
  simp only[ZI,if_neg h,sB,h,false_and,if_false]
 | j+1,d,hj,hs=>by
  have hj':j<d.size:=by omega
  rw[insInner];by_cases h:a<j+1
  ·have hc:(a:Int)<((j+1:Nat):Int):=by omega
   by_cases hl:ltInt d[j+1]! d[j]! = true
   ·rw[Yx (s' := ((j:Int),(swp d (j+1) j).toList)),Zpy a i j _ (by rw[size_swp]; exact hj') (by rw[size_swp]; exact hs),if_pos (by simp[h,hl])]
    simp only[ZI,if_pos hc,hc,true_and,wP (show j<9223372036854775807 by omega),iB hj,iB hj',gB hj,gB hj',Znd,sB,hl,if_true,iB1 hj',swpL]
   ·rw[if_neg (by simp[hl])]
    refine Zag ?_;simp only[ZI,if_pos hc,hc,true_and,wP (show j<9223372036854775807 by omega),iB hj,iB hj',gB hj,gB hj',Znd,sB,(by simpa using hl:ltInt d[j+1]! d[j]! = false),if_true,if_false,Bool.false_eq_true]
  ·rw[if_neg (by simp[h])]
   refine Zag ?_;have hc:¬ (a:Int)<((j+1:Nat):Int):=by omega
   simp only[ZI,if_neg hc,sB,hc,false_and,if_false]
theorem Zt9 (a b:Nat) (l0:List Int):∀ (n i:Nat) (d:Array Int),b-i=n→b≤d.size→d.size<4611686018427387904→d.size=l0.length→Zd (Z5 (b:Int) (a:Int) l0) ((i:Int),d.toList)=some (insOuter ltInt a b i d).toList:=by
 intro n;induction n with
 | zero =>
  intro i d h hb hs h0;rw[insOuter,if_neg (by omega)];refine Xi ?_;simp only[Z5,if_neg (show ¬ (i:Int)<(b:Int) by omega)];rw[Zj (by simpa using h0)]
 | succ n ih =>
  intro i d h hb hs h0;rw[insOuter,if_pos (by omega),← ih (i+1) _ (by omega) (by rw[ZhB]; exact hb) (by rw[ZhB]; exact hs) (by rw[ZhB]; exact h0)];refine Yx ?_;simp only[Z5,if_pos (show(i:Int)<(b:Int) by omega)];rw[Zpy a _ i d (by omega) hs,ZU,wS (by omega)]
theorem ZxS (d:Array Int) (a b:Nat) (hb:b≤d.size) (ha:a≤b) (hs:d.size<4611686018427387904):Zv d.toList (a:Int) (b:Int)=some (insertionSort ltInt d a b).toList:=by
 rw[Zv,wS (by omega),Zt9 a b d.toList _ (a+1) d rfl hb hs (by simp)];rfl
theorem wA {i j:Nat}(h:i+j<9223372036854775808):IntKind.i64.wrap ((i:Int)+(j:Int))=((i+j:Nat):Int):=by rw[wi _ (by omega)]; omega
end
end Go.Lc
