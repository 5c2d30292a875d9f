import Derived.Test.YthpkpciceodioaaGreatDoorLcG3
import Derived.Test.YthpkpciceodioaaGreatDoorLcG4
import Derived.Test.YthpkpciceodioaaGreatDoorLcG5
import Derived.Test.YthpkpciceodioaaGreatDoorLcG1
import Derived.Test.YthpkpciceodioaaGreatDoorAvP3
section
namespace Go.Lc
open Go.RowKit
open Go.Av
set_option linter.unusedVariables false
set_option linter.unusedSimpArgs false
set_option maxRecDepth 100000
def leV:List Int→Int
 | []=>0
 | x :: l=>x+256 * leV l
theorem Za1 (x:Int):IntKind.u8.wrap x=x % 256:=rfl
theorem ZvO (n:Int) (k:Nat):Byt (Yi n k):=by
 intro x hx;obtain⟨i,_,rfl⟩:=List.mem_map.1 hx;rw[Za1];omega
def rdS (d:List Int) (a:Int) (k:Nat):Int×Int×Int :=
 if a<0∨(d.length:Int)<a then(0,0,5) else if (d.length:Int)-a<k then(0,0,1) else(leV ((d.drop a.toNat).take k),a+k,0)
end Go.Lc
end
section
namespace Go.Lc
open Go.RowKit
open Go.Av
set_option linter.unusedVariables false
set_option linter.unusedSimpArgs false
set_option maxRecDepth 100000
theorem Zw2 {a b:List Int}(ha:Byt a) (hb:Byt b):Byt (a++b):=fun x hx=>(List.mem_append.1 hx).elim (ha x) (hb x)
end Go.Lc
end
section
namespace Go.Lc
open Go.RowKit
open Go.Av
set_option linter.unusedVariables false
noncomputable def idS (t:Tapi_Tx):Arr 32:=if Ys t=true then ZaB (ZaB (Xb t false)).l else zA 32
theorem Zs8 {t:Tapi_Tx}(h:Ys t=true):(Xb t false).length≤100000000:=by
 have h1:=Zp0 (Zi5 h);have h2:=ZwG (t:=t) (w:=false);omega
theorem Zq2 (t:Tapi_Tx):ZeN t=some (idS t):=by
 unfold ZeN idS;rw[Zfd,Za];by_cases h:Ys t=true
 ·have hn:¬ ¬ Ys t=true:=by simp[h]
  rw[if_neg hn,if_pos h,Zke (Zl5 h),Za,Znb (Zs8 h)];rfl
 ·rw[if_pos h,if_neg h]
end Go.Lc
end
section
namespace Go.Lc
open Go.RowKit
open Go.Av
set_option linter.unusedVariables false
section
variable {l:List Tapi_Entry}{t:Tapi_Tx}{f:Int}
end
end Go.Lc
end
section
namespace Go.Lc
open Go.RowKit
open Go.Av
set_option linter.unusedVariables false
set_option linter.unusedSimpArgs false
set_option maxRecDepth 100000
theorem Zko {α β ρ:Type}{step:Int×List β→Option ((Int×List β) ⊕ ρ)}(l:List α) (f:α→List β) (acc:List β){x:Option ρ}
  (h:∀ i (hi:i<l.length),step ((i:Int),acc++(l.take i).flatMap f)=some (.inl (((i+1:Nat):Int),acc++(l.take i).flatMap f++f l[i])))
  (he:step ((l.length:Int),acc++l.flatMap f)=x.map .inr):Zd step (0,acc)=x:=by
 have key:=ZM (step:=step) (fun i=>((i:Int),acc++(l.take i).flatMap f)) l.length (x:=x) ?_ ?_
 ·simpa using key
 ·intro i hi
  rw[h i hi,ZaT f hi,List.append_assoc]
 ·simpa using he
def Zgu (h:Tapi_Header):List Int:=Yi (IntKind.u64.wrap h.1) 4++h.2.1.l++h.2.2.1.l++Yi (IntKind.u64.wrap h.2.2.2.1) 4++Yi (IntKind.u64.wrap h.2.2.2.2.1) 4++Yi (IntKind.u64.wrap h.2.2.2.2.2) 4
theorem Zi9 (h:Tapi_Header):(Zgu h).length=80:=by simp[Zgu,h.2.1.hl,h.2.2.1.hl]
theorem Zot (h:Tapi_Header):Xp h=some (Zgu h):=by
 unfold Xp;have l1:=h.2.1.hl;have l2:=h.2.2.1.hl;rw[Zix (by simp),Za,List.nil_append,ZoN (by simp),Za,ZoN (by simp[l1]),Za,Zix (by simp[l1,l2]),Za,Zix (by simp[l1,l2]),Za,Zix (by simp[l1,l2]),Za];rfl
theorem Znu (h:Tapi_Header):Xq h=some (Zgu h):=by
 unfold Xq;have l1:=h.2.1.hl;have l2:=h.2.2.1.hl;rw[ZdJ (by simp),Za,List.nil_append,Zi2 (by simp),Za,Zi2 (by simp[l1]),Za]
 have h0:Yn h (0,Yi (IntKind.u64.wrap h.1) 4++h.2.1.l++h.2.2.1.l)=some (.inl (1,Yi (IntKind.u64.wrap h.1) 4++h.2.1.l++h.2.2.1.l++Yi (IntKind.u64.wrap h.2.2.2.1) 4)):=by
  simp only[Yn];rw[if_pos (by omega),show(0:Int)=((0:Nat):Int) from rfl,Yu (by omega)];simp only[List.getElem?_cons_zero,Za];rw[ZdJ (by simp[l1,l2]),Za];rfl
 have h1:Yn h (1,Yi (IntKind.u64.wrap h.1) 4++h.2.1.l++h.2.2.1.l++Yi (IntKind.u64.wrap h.2.2.2.1) 4)=some (.inl (2,Yi (IntKind.u64.wrap h.1) 4++h.2.1.l++h.2.2.1.l++Yi (IntKind.u64.wrap h.2.2.2.1) 4++Yi (IntKind.u64.wrap h.2.2.2.2.1) 4)):=by
  simp only[Yn];rw[if_pos (by omega),show(1:Int)=((1:Nat):Int) from rfl,Yu (by omega)];simp only[List.getElem?_cons_zero,List.getElem?_cons_succ,Za];rw[ZdJ (by simp[l1,l2]),Za];rfl
 have h2:Yn h (2,Yi (IntKind.u64.wrap h.1) 4++h.2.1.l++h.2.2.1.l++Yi (IntKind.u64.wrap h.2.2.2.1) 4++Yi (IntKind.u64.wrap h.2.2.2.2.1) 4)=some (.inl (3,Zgu h)):=by
  simp only[Yn];rw[if_pos (by omega),show(2:Int)=((2:Nat):Int) from rfl,Yu (by omega)];simp only[List.getElem?_cons_zero,List.getElem?_cons_succ,Za];rw[ZdJ (by simp[l1,l2]),Za];rfl
 rw[Yx h0,Yx h1,Yx h2];exact Xi (by simp[Yn,Zd5])
noncomputable def Zmb (h:Tapi_Header):Arr 32:=ZaB (ZaB (Zgu h)).l
theorem Zq3 (h:Tapi_Header):Zcz h=some (Zmb h):=by
 unfold Zcz;rw[Zot,Za,ZxN (by rw[Zi9]; omega)];rfl
theorem ZeO (h:Tapi_Header):YU h=some (Zmb h):=by
 unfold YU;rw[Znu,Za,Znb (by rw[Zi9]; omega)];rfl
noncomputable def ZoX (a:Arr 32):Arr 2:=⟨[wdv (a.l.take 8),wdv ((a.l.drop 8).take 8)],rfl⟩
theorem Zr3 (a:Arr 32):ZhJ a=some (ZoX a):=by
 unfold ZhJ;rw[Znf _ (by simp),Za,Znf _ (by simp)];rfl
theorem Zuh (t:Tapi_Tx) (w:Bool):ZgC t w=some (if Ys t=true then(Xb t w,0) else([],4)):=by
 unfold ZgC;rw[ZrS,Za];by_cases h:Ys t=true
 ·rw[if_neg (by simp[h]),if_pos h,Zpv (Zl5 h)]
  rfl
 ·rw[if_pos h,if_neg h]
theorem Zw3 (t:Tapi_Tx) (w:Bool):ZdF t w=some (if Ys t=true then(Xb t w,0) else([],4)):=by
 unfold ZdF;rw[Zfd,Za];by_cases h:Ys t=true
 ·rw[if_neg (by simp[h]),if_pos h,Zke (Zl5 h)]
  rfl
 ·rw[if_pos h,if_neg h]
def Zlg (b:Tapi_Block):List Int:=Zgu b.1++ZaU (b.2.length:Int)++b.2.flatMap fun t=>Xb t true
theorem ZiA {t:Tapi_Tx}(h:Ys t=true):(Xb t true).length≤20000:=by
 classical
 unfold Ys at h;simp only[decide_eq_true_eq] at h;exact h.2
theorem Zbr {α β:Type}(f:α→List β) (c:Nat):∀ (l:List α),(∀ a∈l,(f a).length≤c)→(l.flatMap f).length≤c * l.length
 | [],_=>by simp
 | a :: l,h=>by
  have h1:=h a (by simp);have h2:=Zbr f c l fun x hx=>h x (by simp[hx])
  rw[List.flatMap_cons,List.length_append,List.length_cons,Nat.mul_succ];omega
noncomputable def Zmc (b:Tapi_Block):List Int×Int:=by
 classical exact if 256<b.2.length then([],4) else if ∃ t∈b.2,¬ Ys t=true then([],4) else if 100000<(Zlg b).length then([],4) else(Zlg b,0)
theorem Zw4 {b:Tapi_Block}(h:b.2.length≤256) (hf:∀ t∈b.2,Ys t=true) (i:Nat):(Zgu b.1++ZaU (b.2.length:Int)++(b.2.take i).flatMap fun t=>Xb t true).length≤10000000:=by
 have h1:=Zbr (fun t=>Xb t true) 20000 (b.2.take i) fun t ht=>ZiA (hf t (List.mem_of_mem_take ht))
 have h2:=ZbS (b.2.length:Int);have h3:20000 * (b.2.take i).length≤20000 * 256:=Nat.mul_le_mul_left _ (by rw[List.length_take]; omega);rw[List.length_append,List.length_append,Zi9];omega
theorem Zui (b:Tapi_Block):ZdC b=some (Zmc b):=by
 classical
 unfold ZdC Zmc;by_cases h:256<b.2.length
 ·rw[if_pos (by omega),if_pos h]
 rw[if_neg (by omega),if_neg h,Zot,Za,ZfW (by omega),Zlw (by omega) (by rw[Zi9]; omega),Za]
 have hpre:∀ i,(∀ t∈b.2.take i,Ys t=true)→(Zgu b.1++ZaU (b.2.length:Int)++(b.2.take i).flatMap fun t=>Xb t true).length≤10000000:=by
  intro i hi;have h1:=Zbr (fun t=>Xb t true) 20000 (b.2.take i) fun t ht=>ZiA (hi t ht)
  have h2:=ZbS (b.2.length:Int);have h3:20000 * (b.2.take i).length≤20000 * 256:=Nat.mul_le_mul_left _ (by rw[List.length_take]; omega);rw[List.length_append,List.length_append,Zi9];omega
 have key:=Zfe (step:=Zbn b) (fun i=>((i:Int),Zgu b.1++ZaU (b.2.length:Int)++(b.2.take i).flatMap fun t=>Xb t true)) b.2.length (fun i=>∃ h:i<b.2.length,¬ Ys b.2[i]=true) (some ([],4)) (some (if 100000<(Zlg b).length then([],4) else(Zlg b,0))) ?_ ?_ ?_ rfl
 ·have e:((∃ i,i<b.2.length∧∃ h:i<b.2.length,¬ Ys b.2[i]=true)↔∃ t∈b.2,¬ Ys t=true):=by
   constructor
   ·rintro⟨i,_,hi,h⟩
    exact⟨_,List.getElem_mem hi,h⟩
   ·rintro⟨t,ht,h⟩
    obtain⟨i,hi,rfl⟩:=List.getElem_of_mem ht;exact⟨i,hi,hi,h⟩
  simp only[List.take_zero,List.flatMap_nil,List.append_nil] at key;rw[show((0:Nat):Int)=0 from rfl] at key;rw[key];by_cases hb:∃ t∈b.2,¬ Ys t=true
  ·rw[if_pos (e.2 hb),if_pos hb]
  ·rw[if_neg (fun x=>hb (e.1 x)),if_neg hb]
 ·intro i hi hp hn
  have hf:Ys b.2[i]=true:=Decidable.byContradiction fun c=>hn ⟨hi,c⟩
  have hl:=hpre i fun t ht=>by
   obtain⟨j,hj,rfl⟩:=List.getElem_of_mem ht;rw[List.length_take] at hj;rw[List.getElem_take];exact Decidable.byContradiction fun c=>hp j (by omega) ⟨by omega,c⟩
  have hb:=ZiA hf;simp only[Zbn];rw[if_pos (by omega),Zi hi,Zuh,Za,if_pos hf];dsimp only;rw[if_neg (by simp),Zj (by omega),Zp hi (by omega),ZaT _ hi,List.append_assoc _ _ (Xb _ _)]
 ·rintro i hi hp ⟨_,hf⟩
  simp only[Zbn];rw[if_pos (by omega),Zi hi,Zuh,Za,if_neg hf];rfl
 ·intro _
  simp only[Zbn,List.take_length];rw[if_neg (by omega)];unfold Ze2;rw[show(Zgu b.1++ZaU (b.2.length:Int)++b.2.flatMap fun t=>Xb t true)=Zlg b from rfl];by_cases hc:100000<(Zlg b).length
  ·rw[if_pos (by omega),if_pos hc]
  ·rw[if_neg (by omega),if_neg hc]
theorem Zs9 {b:Tapi_Block}(h:b.2.length≤256) (hf:∀ t∈b.2,Ys t=true):ZdG b=some (Zlg b):=by
 unfold ZdG;rw[Znu,Za,ZfW (by omega),ZkL (by omega) (by rw[Zi9]; omega),Za];refine Zko b.2 (fun t=>Xb t true) _ ?_ ?_
 ·intro i hi
  have hl:=Zw4 h hf i;have hfi:=hf _ (List.getElem_mem hi);have hb:=ZiA hfi;simp only[Ze4];rw[if_pos (by omega),Zi hi,Zw3,Za,if_pos hfi];dsimp only;rw[Zj (by omega),Zp hi (by omega)]
 ·simp only[Ze4]
  rw[if_neg (by omega)];rfl
noncomputable def ZlA (b:Tapi_Block):Bool:=by classical exact decide ((Zmc b).2=0)
theorem ZvP (b:Tapi_Block):ZfQ b=some (ZlA b):=by
 classical
 unfold ZfQ ZlA Zmc;by_cases h:256<b.2.length
 ·rw[if_pos (by omega),if_pos h]
  rfl
 rw[if_neg (by omega),if_neg h];by_cases hb:∃ t∈b.2,¬ Ys t=true
 ·rw[if_pos hb]
  have key:=Zea (step:=Xh b) (fun i=>(i:Int)) b.2 (fun t=>¬ Ys t=true) (some false) (ZcN b) ?_ ?_ ?_ (s:=((0:Nat):Int)) rfl
  ·rw[show((0:Nat):Int)=0 from rfl,if_pos hb] at key
   rw[key];rfl
  ·intro i hi hn
   simp only[Xh];rw[if_pos (by omega),Zi hi,Zfd,Za,if_neg hn,Zp hi (by omega)]
  ·intro i hi hn
   simp only[Xh];rw[if_pos (by omega),Zi hi,Zfd,Za,if_pos hn];rfl
  ·simp only[Xh]
   rw[if_neg (by omega)]
 ·rw[if_neg hb]
  have hf:∀ t∈b.2,Ys t=true:=fun t ht=>Decidable.byContradiction fun c=>hb ⟨t,ht,c⟩
  have key:=Zea (step:=Xh b) (fun i=>(i:Int)) b.2 (fun t=>¬ Ys t=true) (some false) (ZcN b) ?_ ?_ ?_ (s:=((0:Nat):Int)) rfl
  ·rw[show((0:Nat):Int)=0 from rfl,if_neg hb] at key
   rw[key];unfold ZcN;rw[Zs9 (by omega) hf,Za];by_cases hc:100000<(Zlg b).length
   ·rw[if_pos hc]
    simp
    omega
   ·rw[if_neg hc]
    simp
    omega
  ·intro i hi hn
   simp only[Xh];rw[if_pos (by omega),Zi hi,Zfd,Za,if_neg hn,Zp hi (by omega)]
  ·intro i hi hn
   simp only[Xh];rw[if_pos (by omega),Zi hi,Zfd,Za,if_pos hn];rfl
  ·simp only[Xh]
   rw[if_neg (by omega)]
def ZiB (o:Tapi_Output):List (List Int):=if 0<o.2.length then[o.2] else[]
def inE (x:Tapi_Input):List (List Int):=[Zjw x.1]
def txE (t:Tapi_Tx):List (List Int):=t.2.2.1.flatMap ZiB++if cbS t=true then[] else t.2.1.flatMap inE
def elS (b:Tapi_Block):List (List Int):=b.2.flatMap txE
def ZmR (b:Tapi_Block):Prop:=b.2.length≤256∧∀ t∈b.2,t.2.1.length≤100∧t.2.2.1.length≤100∧∀ o∈t.2.2.1,o.2.length≤100000
theorem Zmd (o:Tapi_Output):(ZiB o).length≤1:=by unfold ZiB; split <;> simp
theorem Zw5 {t:Tapi_Tx}(h:t.2.1.length≤100∧t.2.2.1.length≤100):(txE t).length≤200:=by
 have h1:=Zbr ZiB 1 t.2.2.1 fun o _=>Zmd o
 have h2:=Zbr inE 1 t.2.1 fun o _=>by simp[inE]
 unfold txE;split <;> simp only[List.length_append,List.length_nil] <;> omega
theorem Zw6 {b:Tapi_Block}(h:ZmR b) (i:Nat):((b.2.take i).flatMap txE).length≤51200:=by
 have h1:=Zbr txE 200 (b.2.take i) fun t ht=>Zw5 ⟨(h.2 t (List.mem_of_mem_take ht)).1,(h.2 t (List.mem_of_mem_take ht)).2.1⟩
 have h2:=h.1;rw[List.length_take] at h1;omega
theorem ZvQ {t:Tapi_Tx}(h:t.2.1.length≤100∧t.2.2.1.length≤100∧∀ o∈t.2.2.1,o.2.length≤100000) (acc:List (List Int)) (ha:acc.length≤1000000) (p:Int)
  {step:Int×List (List Int)→Option ((Int×List (List Int)) ⊕ ((Int×List (List Int)) ⊕ List (List Int)))}{K2:List (List Int)→Option ((Int×List (List Int)) ⊕ List (List Int))}{Cl:List Int→Option (List Int)}
  (hs:∀ p108 p109,step (p108,p109)=if p108<(t.2.2.1.length:Int) then(idx (t.2.2.1) (p108)).bind fun x131=>(if 0<(x131.2.length:Int) then(Cl x131.2).bind fun y135=>(chk (p109.length+1≤5864062014805)).bind fun _=>some (.inl (IntKind.i64.wrap (p108+1),p109++[y135])) else some (.inl (IntKind.i64.wrap (p108+1),p109))) else(K2 p109).map Sum.inr)
  (hC:∀ s:List Int,s.length≤100000→Cl s=some s):Zd step (0,acc)=K2 (acc++t.2.2.1.flatMap ZiB):=by
 refine Zko t.2.2.1 ZiB acc ?_ ?_
 ·intro i hi
  have hl:=Zbr ZiB 1 (t.2.2.1.take i) fun o _=>Zmd o
  rw[List.length_take] at hl;rw[hs,if_pos (by omega),Zi hi,Zp hi (by omega)];unfold ZiB;by_cases h0:0<t.2.2.1[i].2.length
  ·rw[if_pos (by omega),if_pos h0,hC _ (h.2.2 _ (List.getElem_mem hi)),Za]
   refine Zj ?_;have:(acc++(t.2.2.1.take i).flatMap ZiB).length≤1000100:=by rw[List.length_append]; omega
   unfold ZiB at this;omega
  ·rw[if_neg (by omega),if_neg h0,List.append_nil]
 ·rw[hs,if_neg (by omega)]
theorem Zw7 {t:Tapi_Tx}(h:t.2.1.length≤100∧t.2.2.1.length≤100∧∀ o∈t.2.2.1,o.2.length≤100000) (acc:List (List Int)) (ha:acc.length≤1000000)
  {step:Int×List (List Int)→Option ((Int×List (List Int)) ⊕ ((Int×List (List Int)) ⊕ List (List Int)))}{K3:List (List Int)→Option ((Int×List (List Int)) ⊕ List (List Int))}{Pt:Tapi_OutPoint→Option (List Int)}
  (hs:∀ p123 p124,step (p123,p124)=if p123<(t.2.1.length:Int) then(idx (t.2.1) (p123)).bind fun x128=>(Pt x128.1).bind fun y129=>(chk (p124.length+1≤5864062014805)).bind fun _=>some (.inl (IntKind.i64.wrap (p123+1),p124++[y129])) else(K3 p124).map Sum.inr)
  (hP:∀ o,Pt o=some (Zjw o)):Zd step (0,acc)=K3 (acc++t.2.1.flatMap inE):=by
 refine Zko t.2.1 inE acc ?_ ?_
 ·intro i hi
  have hl:=Zbr inE 1 (t.2.1.take i) fun o _=>by simp[inE]
  rw[List.length_take] at hl;have:(acc++(t.2.1.take i).flatMap inE).length≤1000100:=by rw[List.length_append]; omega
  rw[hs,if_pos (by omega),Zi hi,Zp hi (by omega),hP,Za,Zj (by omega)];rfl
 ·rw[hs,if_neg (by omega)]
theorem Zrt {b:Tapi_Block}(h:ZmR b):Zaw b=some (elS b):=by
 unfold Zaw;refine Zko b.2 txE [] ?_ ?_
 ·intro i hi
  have hp:=Zw6 h i;have hb:=h.1;have ht:=h.2 _ (List.getElem_mem hi);simp only[Zdu,List.nil_append];rw[if_pos (by omega),Zi hi];generalize hacc:(b.2.take i).flatMap txE=acc at hp ⊢;refine(ZvQ ht acc (by omega) (i:Int) (K2:=Xo b.2[i] (i:Int)) (Cl:=ZZ) (fun p q=>rfl) (fun s hs=>?_)).trans ?_
  ·unfold ZZ
   exact Zj (by omega)
  ·have hl:=Zbr ZiB 1 b.2[i].2.2.1 fun o _=>Zmd o
   unfold Xo;rw[ZsW,Za,Zp hi (by omega),txE];by_cases hc:cbS b.2[i]=true
   ·rw[if_pos hc,if_pos hc,List.append_nil]
   ·rw[if_neg hc,if_neg hc]
    refine(Zw7 ht _ (by rw[List.length_append]; omega) (K3:=Xn (i:Int)) (Pt:=ZeM) (fun p q=>rfl) ZqJ).trans ?_;unfold Xn;rw[Zp hi (by omega),List.append_assoc]
 ·simp only[Zdu,List.nil_append]
  rw[if_neg (by omega)];rfl
def ZvR (b:Tapi_Block):Prop:=∀ t∈b.2,(∀ x∈t.2.1,Byt x.1.1.l)∧∀ o∈t.2.2.1,Byt o.2
theorem Zuj {b:Tapi_Block}(h:ZmR b) (hb:ZvR b):Ziz (elS b):=by
 intro x hx;obtain⟨t,ht,hx⟩:=List.mem_flatMap.1 hx;obtain⟨h1,h2⟩:=hb t ht;have h3:=(h.2 t ht).2.2;rw[txE,List.mem_append] at hx;rcases hx with hx | hx
 ·obtain⟨o,ho,hx⟩:=List.mem_flatMap.1 hx
  unfold ZiB at hx;split at hx
  ·obtain rfl:=List.mem_singleton.1 hx
   exact⟨h2 o ho,h3 o ho⟩
  ·cases hx
 ·split at hx
  ·cases hx
  ·obtain⟨y,hy,hx⟩:=List.mem_flatMap.1 hx
   obtain rfl:=List.mem_singleton.1 hx;exact⟨Zw2 (h1 y hy) (ZvO _ _),by simp⟩
def posE (x:List Int):List (List Int):=if 0<x.length then[x] else[]
theorem Zuk (l:List (List Int)):l.flatMap posE=l.filter fun x=>decide (0<x.length):=by
 induction l with
 | nil=>rfl
 | cons x l ih =>
  rw[List.flatMap_cons,ih,List.filter_cons,posE];by_cases h:0<x.length
  ·rw[if_pos h,if_pos (by simpa using h)]
   rfl
  ·rw[if_neg h,if_neg (by simpa using h)]
   rfl
theorem ZnX (x:List Int):(posE x).length≤1:=by unfold posE; split <;> simp
theorem Zta {l:List (List Int)}(h:Ziz l):Ziz (l.flatMap posE):=by
 rw[Zuk];exact fun x hx=>h x (List.mem_filter.1 hx).1
end Go.Lc
end
section
namespace Go.Av
open Go.RowKit
open Go.Lc
set_option linter.unusedVariables false
theorem ZX {P:Program}{tt:TT}{T:Tab}{G:Glob}{kp:Keep}{w:Bool}{n:Nat}(hm:P.follows .mixedOrders=true) (htt:∀ t i,tt t=some i→Z1 P t=some i) (hT:∀ f F,T f=some F→Zds P G (f % 1000000) F){f:FuncId}{fn:Func}
  (hf:P.funcs[f]? = some fn) (hb:(fn.body.isSome && !(fn.name == "runtime.NumGoroutine"))=true):ZB P G f (ZO tt T G kp w n fn):=by
 obtain⟨h1,h2⟩:=Bool.and_eq_true_iff.1 hb;obtain⟨c,hc⟩:=Option.isSome_iff_exists.1 h1;exact ZoI hm htt hT hf hc (by simpa using h2) fun ps r _ h=>⟨_,_,_,h⟩
theorem Zk5 {P:Program}{G:Glob}{f:FuncId}{F F':List PV→Option (PV×List (List Cell))}(h:ZB P G f F) (hw:∀ ps r,F' ps=some r→F ps=some r):ZB P G f F' :=
 ⟨h.1,fun S w ks hh ps vs r outs a1 a2 a3 a4 hF=>h.2 S w ks hh ps vs r outs a1 a2 a3 a4 (hw _ _ hF)⟩
def ZmS (k:IntKind):PV→Option Int
 | .one (.v (.int k' i))=>if k=k' then some i else none
 | _=>none
theorem ZoY {k:IntKind}{p:PV}{i:Int}(h:ZmS k p=some i):p = .one (.v (.int k i)):=by
 unfold ZmS at h;split at h
 ·split at h
  ·rename_i e; subst e; cases h; rfl
  ·cases h
 ·cases h
def dCs (k:IntKind):List Cell→Option (List Int)
 | []=>some []
 | c :: t=>match c with
  | .v (.int k' i)=>if k=k' then(dCs k t).map (i :: ·) else none
  | _=>none
theorem Zou {k:IntKind}:∀ {cs:List Cell}{l:List Int},dCs k cs=some l→cs=ints k l
 | [],l,h=>by cases h; rfl
 | c :: t,l,h=>by
  unfold dCs at h;split at h
  ·split at h
   ·rename_i e
    subst e;obtain⟨m,hm,rfl⟩:=Option.map_eq_some_iff.1 h;rw[Zou hm]; rfl
   ·cases h
  ·cases h
def Zlh (k:IntKind) (n:Nat):PV→Option (Arr n)
 | .agg cs=>match dCs k cs with
  | some l=>if h:l.length=n then some ⟨l,h⟩ else none
  | none=>none
 | _=>none
theorem Zng {k:IntKind}{n:Nat}{p:PV}{a:Arr n}(h:Zlh k n p=some a):p = .agg (arC k a):=by
 unfold Zlh at h;split at h
 ·split at h
  ·rename_i e
   split at h
   ·cases h; rw[Zou e]; rfl
   ·cases h
  ·cases h
 ·cases h
def dRs (k:IntKind):List (List Cell)→Option (List Int)
 | []=>some []
 | r :: t=>match r with
  | [.v (.int k' i)]=>if k=k' then(dRs k t).map (i :: ·) else none
  | _=>none
theorem Zul {k:IntKind}:∀ {cs:List (List Cell)}{l:List Int},dRs k cs=some l→cs=Zf k l
 | [],l,h=>by cases h; rfl
 | c :: t,l,h=>by
  unfold dRs at h;split at h
  ·split at h
   ·rename_i e
    subst e;obtain⟨m,hm,rfl⟩:=Option.map_eq_some_iff.1 h;rw[Zul hm]; rfl
   ·cases h
  ·cases h
def ZmT (k:IntKind):PV→Option (List Int)
 | .one (.slice .no rs)=>dRs k rs
 | _=>none
theorem ZoZ {k:IntKind}{p:PV}{l:List Int}(h:ZmT k p=some l):p = .one (.slice .no (Zf k l)):=by
 unfold ZmT at h;split at h
 ·rw[Zul h]
 ·cases h
def d1 {α:Type}(d:PV→Option α):List PV→Option α
 | [p]=>d p
 | _=>none
def d2 {α β:Type}(d:PV→Option α) (e:PV→Option β):List PV→Option (α×β)
 | [p,q]=>match d p,e q with
  | some x,some y=>some (x,y)
  | _,_=>none
 | _=>none
theorem Zk6 {α:Type}{d:PV→Option α}{ea:α→PV}(h:∀ p x,d p=some x→p=ea x){ps:List PV}{x:α}(hx:d1 d ps=some x):ps=[ea x]:=by
 unfold d1 at hx;split at hx
 ·rw[h _ _ hx]
 ·cases hx
theorem Zv4 {α β:Type}{d:PV→Option α}{e:PV→Option β}{ea:α→PV}{eb:β→PV}(h:∀ p x,d p=some x→p=ea x) (k:∀ p x,e p=some x→p=eb x){ps:List PV}{x:α×β}(hx:d2 d e ps=some x):ps=[ea x.1,eb x.2]:=by
 unfold d2 at hx;split at hx
 ·split at hx
  ·rename_i h1 h2
   cases hx
   rw[h _ _ h1,k _ _ h2]
  ·cases hx
 ·cases hx
end Go.Av
end
section
namespace Go.Av
open Go.RowKit
open Go.Lc
set_option linter.unusedVariables false
def dHdr:PV→Option Tapi_Header
 | .agg (.v (.int .u32 a) :: l)=>match dCs .u8 (l.take 32),dCs .u8 ((l.drop 32).take 32),l.drop 64 with
  | some p,some q,[.v (.int .u32 t),.v (.int .u32 b),.v (.int .u32 n)]=>if h:p.length=32 then if k:q.length=32 then some (a,⟨p,h⟩,⟨q,k⟩,t,b,n) else none else none
  | _,_,_=>none
 | _=>none
theorem Zr4 {p:PV}{x:Tapi_Header}(h:dHdr p=some x):p = .agg (.v (.int .u32 x.1) :: (arC .u8 x.2.1++(arC .u8 x.2.2.1++[.v (.int .u32 x.2.2.2.1),.v (.int .u32 x.2.2.2.2.1),.v (.int .u32 x.2.2.2.2.2)]))):=by
 unfold dHdr at h;split at h
 ·rename_i a l
  split at h
  ·rename_i p q t b n h1 h2 h3
   split at h
   ·split at h
    ·injection h with h
     subst h;have e1:=Zou h1;have e2:=Zou h2
     have e3:l=l.take 32++((l.drop 32).take 32++l.drop 64):=by
      have:l.drop 64=(l.drop 32).drop 32:=by rw[List.drop_drop]
      rw[this,List.take_append_drop,List.take_append_drop]
     rw[e1,e2,h3] at e3;rw[e3];rfl
    ·cases h
   ·cases h
  ·cases h
 ·cases h
end Go.Av
namespace Go.Lc
open Go.Av
theorem Zw8 (x:Tapi_Header):Le (ZkR (Zgu x)) (Zcz x):=fun r h=>by
 obtain⟨rfl,_⟩:=ZmP h;exact Zq3 x
theorem ZvS (x:Tapi_Header):Le (ZkR (Zgu x)) (YU x):=fun r h=>by
 obtain⟨rfl,_⟩:=ZmP h;exact ZeO x
end Go.Lc
end
section
namespace Go.Av
open Go.RowKit
open Go.Lc
set_option linter.unusedVariables false
def eqL {α:Type}(f:α→α→Bool):List α→List α→Bool
 | [],[]=>true
 | a :: l,b :: m=>f a b && eqL f l m
 | _,_=>false
theorem ZiC {α:Type}{f:α→α→Bool}(h:∀ a b,f a b=true→a=b):∀ {l m:List α},eqL f l m=true→l=m
 | [],[],_=>rfl
 | a :: l,b :: m,k=>by
  obtain⟨k1,k2⟩:=Bool.and_eq_true_iff.1 k;rw[h _ _ k1,ZiC h k2]
 | [],_ :: _,k=>by cases k
 | _ :: _,[],k=>by cases k
def eqY:Int→Int→Bool
 | .ofNat a,.ofNat b=>Nat.beq a b
 | .negSucc a,.negSucc b=>Nat.beq a b
 | _,_=>false
theorem eqY_ok:∀ {a b:Int},eqY a b=true→a=b
 | .ofNat a,.ofNat b,h=>by rw[Nat.eq_of_beq_eq_true h]
 | .negSucc a,.negSucc b,h=>by rw[Nat.eq_of_beq_eq_true h]
 | .ofNat _,.negSucc _,h=>by cases h
 | .negSucc _,.ofNat _,h=>by cases h
def eqC:Nat→Cell→Cell→Bool
 | 0,_,_=>false
 | n+1,c,d=>match c,d with
  | .v (.int k a),.v (.int k' b)=>decide (k=k') && eqY a b
  | .v (.bool a),.v (.bool b)=>decide (a=b)
  | .slice o r,.slice o' s=>decide (o=o') && eqL (eqL (eqC n)) r s
  | .own e r,.own e' s=>Nat.beq e e' && eqL (eqL (eqC n)) r s
  | _,_=>false
theorem eqC_ok:∀ {n:Nat}{c d:Cell},eqC n c d=true→c=d:=by
 intro n;induction n with
 | zero=>intro c d h; simp[eqC] at h
 | succ n ih =>
  intro c d h;simp only[eqC] at h;split at h
  ·obtain⟨h1,h2⟩:=Bool.and_eq_true_iff.1 h; rw[of_decide_eq_true h1,eqY_ok h2]
  ·rw[of_decide_eq_true h]
  ·obtain⟨h1,h2⟩:=Bool.and_eq_true_iff.1 h; rw[of_decide_eq_true h1,ZiC (fun _ _ k=>ZiC (fun _ _ q=>ih q) k) h2]
  ·obtain⟨h1,h2⟩:=Bool.and_eq_true_iff.1 h; rw[Nat.eq_of_beq_eq_true h1,ZiC (fun _ _ k=>ZiC (fun _ _ q=>ih q) k) h2]
  ·cases h
def eqP:PV→PV→Bool
 | .one c,.one d=>eqC 6 c d
 | .agg l,.agg m=>eqL (eqC 6) l m
 | .io l,.io m=>eqL (eqC 6) l m
 | .ref l,.ref m=>eqL (eqC 6) l m
 | _,_=>false
theorem eqP_ok:∀ {p q:PV},eqP p q=true→p=q:=by
 intro p q h;unfold eqP at h;split at h
 ·rw[eqC_ok h]
 ·rw[ZiC (fun _ _ k=>eqC_ok k) h]
 ·rw[ZiC (fun _ _ k=>eqC_ok k) h]
 ·rw[ZiC (fun _ _ k=>eqC_ok k) h]
 ·cases h
noncomputable def cst (A:List PV) (V:PV×List (List Cell)):List PV→Option (PV×List (List Cell)):=fun ps=>Bool.rec (motive:=fun _=>Option (PV×List (List Cell))) none (some V) (eqL eqP ps A)
theorem Zed {P:Program}{G:Glob}{f:FuncId}{F:List PV→Option (PV×List (List Cell))}{A:List PV}{V:PV×List (List Cell)}(h:ZB P G f F) (hv:F A=some V):ZB P G f (cst A V):=Zk5 h fun ps r k=>by
 unfold cst at k;cases e:eqL eqP ps A with
 | false=>rw[e] at k; cases k
 | true =>
  rw[e] at k;obtain rfl:=Option.some.inj k;rw[ZiC (fun _ _ q=>eqP_ok q) e];exact hv
noncomputable def gvF {α β:Type}(dec:List PV→Option α) (g:α→Option β) (R:α→β→PV×List (List Cell)):List PV→Option (PV×List (List Cell)):=fun ps=>match dec ps with
 | some x=>(g x).map (R x)
 | none=>none
theorem Zee {P:Program}{G:Glob}{f:FuncId}{α β:Type}{enc:α→List PV}{g g':α→Option β}{R:α→β→PV×List (List Cell)}(hi:∀ a b,enc a=enc b→a=b) (v:ZB P G f (Zab enc fun x=>(g x).map (R x))) (dec:List PV→Option α) (hd:∀ ps x,dec ps=some x→ps=enc x) (hle:∀ x,Le (g' x) (g x)):ZB P G f (gvF dec g' R):=by
 refine Zk5 v fun ps r h=>?_
 unfold gvF at h;split at h
 ·rename_i x hx
  obtain⟨y,hy,rfl⟩:=Option.map_eq_some_iff.1 h;rw[hd _ _ hx];exact YO hi (hle x y hy)
 ·cases h
end Go.Av
end
section
namespace Go.Av
theorem Zum {x:Int}(h:(Lit.int .u8 x).wf=true):0≤x∧x≤255:=by simpa[Lit.wf,IntKind.has,IntKind.min,IntKind.max,IntKind.signed,IntKind.bits] using h
end Go.Av
end
section
namespace Go.Lc
open Go.RowKit
open Go.Av
set_option linter.unusedVariables false
set_option linter.unusedSimpArgs false
set_option maxRecDepth 100000
abbrev M64 (x:Int):Prop:=0≤x∧x≤18446744073709551615
def dg (a:Arr 4):Prop:=∀ i,i<4→M64 (a.at i)
theorem dg_zero:dg (zA 4):=by
 intro i hi;have:i=0∨i=1∨i=2∨i=3:=by omega
 rcases this with rfl | rfl | rfl | rfl <;> exact⟨by decide,by decide⟩
theorem ZfA {a:Arr 4}(h:dg a){j:Nat}(hj:j<4){x:Int}(hx:M64 x):dg (a.put j x):=by
 intro i hi;by_cases e:j=i
 ·subst e
  rw[Arr.at_put _ hi];exact hx
 ·rw[Arr.at_put_ne _ e]
  exact h i hi
theorem Zhm (x:Int):M64 (IntKind.u64.wrap x):=Zma x
theorem ZiD (op:BinOp) (x y:Int):M64 (bits op .u64 x y):=ZnW op x y
theorem Znh {n:Int}(h:M64 n):dg ((zA 4).put 0 n):=ZfA dg_zero (by omega) h
theorem Zff {n:Int}(h:0≤n) (m:Int):n.tdiv m=n / m:=Int.tdiv_eq_ediv_of_nonneg h
theorem Zdp {n:Int}(h:0≤n) (m:Int):n.tmod m=n % m:=Int.tmod_eq_emod_of_nonneg h
theorem Zkp (a:Arr 4){n:Int}(h0:0≤n) (h1:n<256):Tot (XW a n) fun _=>True:=by
 unfold XW;rw[Zff h0,Zdp h0,wi (n / 64) (by omega)];refine Y7 (by omega) (by omega) fun j _ hj=>Zx (by omega) (Zb trivial)
theorem Zr5 (a:Arr 4):Tot (Zak a) fun r=>0≤r∧r≤256:=by
 unfold Zak;refine ZK (I:=fun(n:Nat) (s:Int)=>s+1=(n:Int)∧s≤255) (n:=256) ?_ ⟨by omega,by omega⟩;rintro n s ⟨hs,hs2⟩
 simp only[ZdD];refine Zg (fun h=>?_) (fun h=>?_)
 ·refine(Zkp a h (by omega)).bind fun y _=>Zg (fun _=>?_) (fun _=>?_)
  ·exact Zb (show 0≤IntKind.i64.wrap (s+1)∧IntKind.i64.wrap (s+1)≤256 by rw[wi (s+1) (by omega)]; omega)
  ·exact Zb ⟨n-1,by omega,by rw[wi _ (by omega)]; omega,by rw[wi _ (by omega)]; omega⟩
 ·exact Tot.out (Zb (by omega))
theorem ZmU {x y c:Int}(hx:M64 x) (hy:M64 y) (hc:0≤c∧c≤1):Tot (YE x y c) fun r=>M64 r.1∧0≤r.2∧r.2≤1:=by
 unfold YE;exact Zx (by omega) (Zb ⟨by simp only; omega,by simp only; omega⟩)
theorem Zr6 {a b:Arr 4}(ha:dg a) (hb:dg b):Tot (Zcu a b) fun r=>dg r.1:=by
 unfold Zcu;refine ZK (I:=fun(n:Nat) (s:Int×Int×Arr 4)=>s.2.1+(n:Int)=4∧0≤s.2.1∧(0≤s.1∧s.1≤1)∧dg s.2.2) (n:=4) ?_ ⟨by simp,by simp,by simp,dg_zero⟩;rintro n ⟨c,i,r⟩ ⟨h1,h2,h3,h4⟩
 dsimp only at h1 h2 h3 h4;simp only[Zfu];refine Zg (fun h=>?_) (fun h=>?_)
 ·refine Y7 h2 h fun j hj hj4=>?_
  refine(ZmU (ha j hj4) (hb j hj4) h3).bind fun y hy=>Zb ⟨n-1,by omega,?_,?_,hy.2,ZfA h4 hj4 hy.1⟩
  ·dsimp only
   rw[wi _ (by omega)];omega
  ·dsimp only
   rw[wi _ (by omega)];omega
 ·exact Tot.out (Zb h4)
theorem Zr7 {a:Arr 4}(ha:dg a){n:Int}(hn:n≤100000):Tot (Zcv a n) dg:=by
 unfold Zcv;refine Zg (fun _=>Zb dg_zero) (fun h=>?_);refine ZK (I:=fun(k:Nat) (s:Int×Arr 4)=>s.1≤(k:Int)∧s.1≤100000∧dg s.2) (n:=n.toNat) ?_ ⟨by dsimp only; omega,hn,ha⟩;rintro k ⟨i,r⟩ ⟨h1,h1b,h2⟩
 dsimp only at h1 h1b h2;simp only[Lref02_Shl_s1];refine Zg (fun h=>?_) (fun h=>?_)
 ·refine(Zr6 h2 h2).bind fun y hy=>Zb ⟨k-1,by omega,?_,?_,hy⟩
  ·dsimp only
   rw[wi _ (by omega)];omega
  ·dsimp only
   rw[wi _ (by omega)];omega
 ·exact Tot.out (Zb h2)
theorem Zni {a:Arr 4}(ha:dg a) (n:Int):Tot (Xw a n) dg:=by
 unfold Xw;refine Zg (fun _=>Zb ha) (fun h=>Zg (fun _=>Zb dg_zero) (fun h'=>?_));refine ZK (I:=fun(k:Nat) (s:Int×Arr 4)=>s.1+(k:Int)=256∧0≤s.1∧dg s.2) (n:=256) ?_ ⟨by simp,by simp,dg_zero⟩;rintro k ⟨i,r⟩ ⟨h1,h2,h3⟩
 dsimp only at h1 h2 h3;simp only[ZdB,Za7];rw[wi (i+n) (by omega)];refine Zg (fun h=>?_) (fun h=>?_)
 ·refine(Zkp a (by omega) h).bind fun y _=>Zg (fun _=>?_) (fun _=>?_)
  ·rw[Zff h2,Zdp h2,wi (i / 64) (by omega)]
   refine Y7 (by omega) (by omega) fun j hj hj4=>Zx (by omega) (Zb ⟨k-1,by omega,?_,?_,ZfA h3 hj4 (ZiD _ _ _)⟩)
   ·dsimp only
    rw[wi _ (by omega)];omega
   ·dsimp only
    rw[wi _ (by omega)];omega
  ·refine Zb ⟨k-1,by omega,?_,?_,h3⟩
   ·dsimp only
    rw[wi _ (by omega)];omega
   ·dsimp only
    rw[wi _ (by omega)];omega
 ·exact Tot.out (Zb h3)
theorem ZpV (a:Arr 32):Tot (YV a) dg:=by
 unfold YV;refine ZK (I:=fun(k:Nat) (s:Int×Arr 4)=>s.1+(k:Int)=32∧0≤s.1∧dg s.2) (n:=32) ?_ ⟨by simp,by simp,dg_zero⟩;rintro k ⟨i,r⟩ ⟨h1,h2,h3⟩
 dsimp only at h1 h2 h3;simp only[Zbc];refine Zg (fun h=>?_) (fun h=>?_)
 ·rw[wi (31-i) (by omega),Zff (by omega),Zdp (by omega),wi ((31-i) / 8) (by omega),wi (8 * ((31-i) % 8)) (by omega)]
  refine Y7 (by omega) (by omega) fun j hj hj4=>Y7 h2 h fun j2 hj2 _=>Zx (by omega) (Zb ⟨k-1,by omega,?_,?_,ZfA h3 hj4 (ZiD _ _ _)⟩)
  ·dsimp only
   rw[wi _ (by omega)];omega
  ·dsimp only
   rw[wi _ (by omega)];omega
 ·exact Tot.out (Zb h3)
theorem ZkT (a:Arr 4):Tot (Zae a) fun _=>True:=Zb trivial
theorem Zkq (a b:Arr 4):Tot (YJ a b) fun _=>True:=by
 unfold YJ;refine ZK (I:=fun(n:Nat) (s:Int)=>s+1=(n:Int)∧s≤3) (n:=4) ?_ ⟨by omega,by omega⟩;rintro n s ⟨hs,hs2⟩
 simp only[Zfr];refine Zg (fun h=>?_) (fun h=>?_)
 ·refine Y7 h (by omega) fun j _ hj=>Zg (fun _=>Zb trivial) (fun _=>Zg (fun _=>Zb trivial) (fun _=>?_))
  exact Zb ⟨n-1,by omega,by rw[wi _ (by omega)]; omega,by rw[wi _ (by omega)]; omega⟩
 ·exact Tot.out (Zb trivial)
theorem Zme (n:Int):Y9 n=some ((zA 4).put 0 n):=rfl
abbrev M32 (x:Int):Prop:=0≤x∧x≤4294967295
theorem Zmf {n:Int}(hn:M32 n):Tot (Xf n) fun r=>dg r.1:=by
 unfold Xf;have f1:n.fdiv 16777216=n / 16777216:=by rw[Int.fdiv_eq_ediv_of_nonneg _ (by omega)]
 rw[f1];have hx:0≤n / 16777216∧n / 16777216≤255:=by omega
 generalize n / 16777216=x at hx
 have hk:∀ p,dg p→Tot (Zax p) fun r=>dg r.1:=by
  intro p hp;unfold Zax;exact(ZkT p).bind fun y _=>Zg (fun _=>Zb dg_zero) (fun _=>Zb hp)
 rw[Zme,Za,wi x (by omega)];have hm:=Znh (Zhm (bits .and .u32 n 16777215));refine Zg (fun _=>Zb dg_zero) (fun _=>Zg (fun h=>?_) (fun h=>?_))
 ·exact(Zni hm _).bind fun y hy=>hk y hy
 ·refine(ZkT _).bind fun y _=>?_
  rw[wi (x-3) (by omega),wi (8 * (x-3)) (by omega)]
  have h5:Tot (if ¬ (y=true) then(Zak ((zA 4).put 0 (IntKind.u64.wrap (bits .and .u32 n 16777215)))).bind fun y11=>some (decide (256<IntKind.i64.wrap (y11+8 * (x-3)))) else some false) fun _=>True :=
   Zg (fun _=>(Zr5 _).bind fun z _=>Zb trivial) (fun _=>Zb trivial)
  refine h5.bind fun z _=>Zg (fun _=>Zb dg_zero) (fun _=>?_)
  exact(Zr7 hm (by omega)).bind fun q hq=>hk q hq
theorem ZpF (a:Arr 32){n:Int}(hn:M32 n):Tot (Zdc a n) fun _=>True:=by
 unfold Zdc;refine(Zmf hn).bind fun y _=>?_
 have h5:Tot (if y.2=0 then(YV a).bind fun y2=>(YJ y2 y.1).bind fun y3=>some (decide (y3≤0)) else some false) fun _=>True :=
  Zg (fun _=>(ZpV a).bind fun z _=>(Zkq _ _).bind fun q _=>Zb trivial) (fun _=>Zb trivial)
 exact h5.bind fun z _=>Zb trivial
theorem Zun (op:BinOp) (x y:Int):M32 (bits op .u32 x y):=by
 show M32 (IntKind.u32.wrap _)
 rw[Zi7];omega
end Go.Lc
end
section
namespace Go.Lc
open Go.RowKit
open Go.Av
set_option linter.unusedVariables false
set_option linter.unusedSimpArgs false
set_option maxRecDepth 100000
theorem Zy4 (L:List (List Int)) (hl:L.length≤1000000) (h:(L.flatMap id).length≤1000000000):ZaI L=some (L.flatMap id):=by
 unfold ZaI;refine Zko L id [] ?_ ?_
 ·intro i hi
  have h1:=ZdW L id (i+1);rw[ZaT id hi,List.length_append] at h1;simp only[ZcK,List.nil_append];rw[if_pos (by omega),Zi hi,ZaG (by simp only[id] at h1 ⊢; omega),Za,Zp hi (by omega)];rfl
 ·simp only[ZcK,List.nil_append]
  rw[if_neg (by omega)];rfl
noncomputable def Zv5 (t:Tapi_Tx):Arr 32:=if Ys t=true then ZaB (ZaB (Xb t true)).l else zA 32
theorem ZvT (t:Tapi_Tx):ZfN t=some (Zv5 t):=by
 unfold ZfN Zv5;rw[Zfd,Za];by_cases h:Ys t=true
 ·have hb:=ZiA h
  rw[if_neg (by simp[h]),if_pos h,Zke (Zl5 h),Za,Znb (by omega)];rfl
 ·rw[if_pos h,if_neg h]
noncomputable def Zv6 (a b:Arr 32):Arr 32:=ZaB ([1]++(a.l++b.l))
theorem Zw9 (a b:Arr 32):ZfO a b=some (Zv6 a b):=by
 unfold ZfO;have ha:=a.hl;have hb:=b.hl;rw[Zy4 _ (by simp) (by simp[ha,hb]),Za,ZgP (by simp[ha,hb]),Za];simp[Zv6]
theorem Ztb (l:List (Arr 32)) (h1:1≤l.length) (h2:l.length≤1024):Tot (ZdE l) fun r=>(1≤r.length∧r.length≤1025)∧∀ x∈r,1≤x.length:=by
 unfold ZdE;refine ZK (I:=fun(n:Nat) (s:List (Arr 32)×List (List (Arr 32)))=>s.1.length≤n∧1≤s.1.length∧1≤s.2.length∧s.2.length+s.1.length≤1025∧∀ x∈s.2,1≤x.length) (n:=1024) ?_ ⟨h2,h1,by simp,by simp; omega,by simpa using h1⟩;rintro n ⟨p,q⟩ ⟨k1,k2,k3,k4,k5⟩
 dsimp only at k1 k2 k3 k4 k5;simp only[Lref07_levels_s1];refine Zg (fun h=>?_) (fun h=>Tot.out (Zb ⟨⟨k3,by omega⟩,k5⟩));refine ZK (I:=fun(m:Nat) (s:Int×List (Arr 32))=>s.1=2 * (s.2.length:Int)∧s.1<p.length+2∧(p.length:Int)+2≤s.1+(m:Int)) (n:=p.length+2) ?_ ⟨by simp,by simp; omega,by simp⟩;rintro m ⟨i,acc⟩ ⟨g1,g2,g3⟩
 dsimp only at g1 g2 g3;simp only[ZhN,Zbp];refine Zg (fun hlt=>?_) (fun hlt=>?_)
 ·rw[wi (i+1) (by omega)]
  refine Zg (fun hlt2=>?_) (fun hlt2=>?_)
  ·refine XY (by omega) hlt fun x _=>XY (by omega) hlt2 fun y _=>?_
   rw[Zw9,Za];refine Zx (by omega) (Zb ⟨m-2,by omega,?_,?_,?_⟩)
   ·dsimp only
    rw[wi _ (by omega)];simp
    omega
   ·dsimp only
    rw[wi _ (by omega)];omega
   ·dsimp only
    rw[wi _ (by omega)];omega
  ·refine XY (by omega) hlt fun x _=>?_
   refine Zx (by omega) (Zb ⟨m-2,by omega,?_,?_,?_⟩)
   ·dsimp only
    rw[wi _ (by omega)];simp
    omega
   ·dsimp only
    rw[wi _ (by omega)];omega
   ·dsimp only
    rw[wi _ (by omega)];omega
 ·refine Tot.out ?_
  unfold Zde;refine Zx (by omega) (Zb ⟨n-1,by omega,?_,?_,?_,?_,?_⟩)
  ·dsimp only
   omega
  ·dsimp only
   omega
  ·simp
  ·simp only[List.length_append,List.length_singleton]
   omega
  ·intro x hx
   simp only[List.mem_append,List.mem_singleton] at hx;rcases hx with hx | rfl
   ·exact k5 x hx
   ·omega
theorem Zuo (l:List (Arr 32)):Tot (ZfP l) fun _=>True:=by
 unfold ZfP;refine Zg (fun _=>Zb trivial) (fun h=>?_);refine(Ztb l (by omega) (by omega)).bind fun y hy=>?_
 rw[wi _ (by omega)];refine Y7 (by omega) (by omega) fun j _ hj=>ZdK hj fun x hx=>?_
 have:=hy.2 x (List.mem_of_getElem? hx);exact ZdK (by omega) fun z _=>Zb trivial
theorem Zov (l:List Tapi_Tx) (hl:l.length≤1000000):Tot (Zd6 l) fun _=>True:=by
 unfold Zd6;refine ZK (I:=fun(n:Nat) (s:Int×List (Arr 32))=>s.1+(n:Int)=(l.length:Int)∧(s.2.length:Int)=s.1) (n:=l.length) ?_ ⟨by simp,by simp⟩;rintro n ⟨i,acc⟩ ⟨h1,h2⟩
 dsimp only at h1 h2;simp only[ZiR];refine Zg (fun h=>?_) (fun h=>?_)
 ·refine XY (by omega) h fun x _=>?_
  rw[ZvT,Za];refine Zx (by omega) (Zb ⟨n-1,by omega,?_,?_⟩)
  ·dsimp only
   rw[wi _ (by omega)];omega
  ·dsimp only
   rw[wi _ (by omega)];simp
   omega
 ·refine Tot.out ?_
  unfold ZgH;exact(Zuo _).bind fun _ _=>Zb trivial
theorem Znv {b:Tapi_Block}(h:ZlA b=true):b.2.length≤256∧(∀ t∈b.2,Ys t=true)∧Zmc b=(Zlg b,0):=by
 classical
 unfold ZlA at h;have h:=of_decide_eq_true h;unfold Zmc at h ⊢;by_cases c1:256<b.2.length
 ·rw[if_pos c1] at h; simp at h
 rw[if_neg c1] at h ⊢;by_cases c2:∃ t∈b.2,¬ Ys t=true
 ·rw[if_pos c2] at h; simp at h
 rw[if_neg c2] at h ⊢;by_cases c3:100000<(Zlg b).length
 ·rw[if_pos c3] at h; simp at h
 rw[if_neg c3];exact⟨by omega,fun t ht=>Decidable.byContradiction fun c=>c2 ⟨t,ht,c⟩,rfl⟩
theorem YX {α ρ:Type}{step:Int→Option (Int ⊕ ρ)}{Q:ρ→Prop}(l:List α) (J:Nat→Prop) (hl:l.length≤1000000000) (h0:J 0)
  (h:∀ i (hi:i<l.length),J i→Tot (step (i:Int)) fun | .inl s=>s=((i+1:Nat):Int)∧J (i+1) | .inr r=>Q r)
  (he:J l.length→∃ r,step (l.length:Int)=some (.inr r)∧Q r):Tot (Zd step 0) Q:=by
 refine ZK (I:=fun(n:Nat) (s:Int)=>∃ i:Nat,s=i∧i+n=l.length∧J i) (n:=l.length) ?_ ⟨0,rfl,by simp,h0⟩;rintro n _ ⟨i,rfl,hi,hJ⟩
 by_cases hlt:i<l.length
 ·refine(h i hlt hJ).mono fun x hx=>?_
  cases x with
  | inl s=>exact⟨n-1,by omega,i+1,hx.1,by omega,hx.2⟩
  | inr r=>exact hx
 ·obtain rfl:i=l.length:=by omega
  obtain⟨r,hr,hq⟩:=he hJ;exact⟨.inr r,hr,hq⟩
theorem ZpG (ids:List (Arr 32)) (a:Arr 32) (hl:ids.length≤1000000):Tot (Zdg ids a) fun r=>-1≤r∧r<1000000:=by
 unfold Zdg;refine YX ids (fun _=>True) (by omega) trivial ?_ ?_
 ·intro i hi _
  simp only[Zf7];rw[if_pos (by omega),Zi hi];refine Zg (fun _=>Zb (by dsimp only; omega)) (fun _=>Zb ⟨Zp hi (by omega),trivial⟩)
 ·intro _
  simp only[Zf7];rw[if_neg (by omega)];exact⟨-1,rfl,by omega⟩
theorem Zru {b:Tapi_Block}(hb:b.2.length≤256) (ht:∀ t∈b.2,t.2.1.length≤1000) (ids:List (Arr 32)) (hl:ids.length≤1000000):Tot (ZcO b ids) fun _=>True:=by
 unfold ZcO;refine YX b.2 (fun _=>True) (by omega) trivial ?_ ?_
 ·intro i hi _
  have h1:=ht _ (List.getElem_mem hi);simp only[Zen];rw[if_pos (by omega),Zi hi];refine YX b.2[i].2.1 (fun _=>True) (by omega) trivial ?_ ?_
  ·intro j hj _
   simp only[Zem];rw[if_pos (by omega),Zi hj];refine(ZpG ids _ hl).bind fun y _=>Zg (fun _=>Zb (by trivial)) (fun _=>Zb ⟨Zp hj (by omega),trivial⟩)
  ·intro _
   simp only[Zem];rw[if_neg (by omega)];exact⟨.inl ((i+1:Nat):Int),by simp only[Zci]; rw[Zp hi (by omega)]; rfl,rfl,trivial⟩
 ·intro _
  simp only[Zen];rw[if_neg (by omega)];exact⟨false,rfl,trivial⟩
theorem Zup {b:Tapi_Block}(hb:b.2.length≤256) (ht:∀ t∈b.2,t.2.1.length≤1000):Tot (Zex b) fun _=>True:=by
 unfold Zex;refine ZK (I:=fun(n:Nat) (s:Int×List Tapi_OutPoint)=>s.1+(n:Int)=(b.2.length:Int)∧0≤s.1∧(s.2.length:Int)≤s.1 * 1000) (n:=b.2.length) ?_ ⟨by simp,by simp,by simp⟩;rintro n ⟨i,acc⟩ ⟨h1,h2,h3⟩
 dsimp only at h1 h2 h3;simp only[Zim];refine Zg (fun h=>?_) (fun h=>Tot.out (Zb trivial));refine XY h2 h fun t htm=>?_
 have h4:=ht t htm;refine ZK (I:=fun(m:Nat) (s:Int×List Tapi_OutPoint)=>s.1+(m:Int)=(t.2.1.length:Int)∧0≤s.1∧(s.2.length:Int)≤i * 1000+s.1) (n:=t.2.1.length) ?_ ⟨by simp,by simp,by simp; omega⟩;rintro m ⟨j,acc⟩ ⟨g1,g2,g3⟩
 dsimp only at g1 g2 g3;simp only[Zil];refine Zg (fun hj=>?_) (fun hj=>?_)
 ·refine XY g2 hj fun x _=>?_
  refine YX acc (fun _=>True) (by omega) trivial ?_ ?_
  ·intro k hk _
   simp only[Zf8];rw[if_pos (by omega),Yu hk,Ze9 hk];exact Zg (fun _=>Zb (by trivial)) (fun _=>Zb ⟨Zp hk (by omega),trivial⟩)
  ·intro _
   simp only[Zf8];rw[if_neg (by omega)];simp only[Zb0];rw[Zj (by omega),wi _ (by omega)];exact⟨.inl (j+1,acc++[x.1]),rfl,m-1,by omega,by dsimp only; omega,by dsimp only; omega,by simp; omega⟩
 ·refine Tot.out (Zb ⟨n-1,by omega,?_,?_,?_⟩)
  ·dsimp only
   rw[wi _ (by omega)];omega
  ·dsimp only
   rw[wi _ (by omega)];omega
  ·dsimp only
   rw[wi _ (by omega)];omega
structure ZnY (b:Tapi_Block):Prop where
 fits:ZlA b=true
 ne:b.2≠[]
 cb:∀ i (h:i<b.2.length),cbS b.2[i]=decide (i=0)
 chk:∀ t∈b.2,Zhj t=0
theorem Zrv (b:Tapi_Block):Tot (Zey b) fun r=>r=0→ZnY b:=by
 unfold Zey;rw[ZvP,Za];refine Zg (fun _=>Zb (by simp)) (fun hf=>?_);have hf:ZlA b=true:=by simpa using hf
 obtain⟨hb,hft,-⟩:=Znv hf;have hin:∀ t∈b.2,t.2.1.length≤1000:=fun t ht=>by have:=(Zi5 (hft t ht)).1; omega
 refine Zg (fun _=>Zb (by simp)) (fun hne=>?_);have hne':b.2≠[]:=by rintro h; rw[h] at hne; simp at hne
 refine YX b.2 (fun n=>∀ i (h:i<b.2.length),i<n→cbS b.2[i]=decide (i=0)) (by omega) (fun i _ h=>absurd h (by omega)) ?_ ?_
 ·intro i hi hJ
  simp only[Zga];rw[if_pos (by omega),Zi hi,ZmL,Za];refine Zg (fun _=>Zb (by simp)) (fun hc=>Zb ⟨Zp hi (by omega),fun k hk hk2=>?_⟩);by_cases e:k=i
  ·subst e
   have hc:(cbS b.2[k] == decide ((k:Int)=0))=true:=by simpa using hc
   have:=eq_of_beq hc;rw[this]
   congr 1
   simp
  ·exact hJ k hk (by omega)
 ·intro hcb
  simp only[Zga];rw[if_neg (by omega)];refine Tot.inr ?_;unfold Zb3;refine YX b.2 (fun n=>∀ i (h:i<b.2.length),i<n→Zhj b.2[i]=0) (by omega) (fun i _ h=>absurd h (by omega)) ?_ ?_
  ·intro i hi hJ
   simp only[Zf9];rw[if_pos (by omega),Zi hi,Zpx,Za];refine Zg (fun hc=>Zb (by intro h; exact absurd h hc)) (fun hc=>Zb ⟨Zp hi (by omega),fun k hk hk2=>?_⟩);by_cases e:k=i
   ·subst e
    simpa using hc
   ·exact hJ k hk (by omega)
  ·intro hck
   have hB:ZnY b:=⟨hf,hne',fun i h=>hcb i h h,fun t ht=>by
    obtain⟨i,hi,rfl⟩:=List.getElem_of_mem ht
    exact hck i hi hi⟩
   simp only[Zf9];rw[if_neg (by omega)];refine Tot.inr (Tot.mono (P:=fun _=>True) ?_ fun _ _ _=>hB);unfold Zb2;refine ZK (I:=fun(n:Nat) (s:Int×List (Arr 32))=>s.1+(n:Int)=(b.2.length:Int)∧(s.2.length:Int)=s.1) (n:=b.2.length) ?_ ⟨by simp,by simp⟩;rintro n ⟨i,ids⟩ ⟨h1,h2⟩
   dsimp only at h1 h2;simp only[Zin];refine Zg (fun h=>?_) (fun h=>?_)
   ·refine XY (by omega) h fun x _=>?_
    rw[Zq2,Za];refine(ZpG ids _ (by omega)).bind fun y _=>Zg (fun _=>Zb trivial) (fun _=>?_)
    refine Zx (by omega) (Zb ⟨n-1,by omega,?_,?_⟩)
    ·dsimp only
     rw[wi _ (by omega)];omega
    ·dsimp only
     rw[wi _ (by omega)];simp
     omega
   ·refine Tot.out ?_
    unfold Zb1;refine(Zru hb hin ids (by omega)).bind fun y _=>Zg (fun _=>Zb trivial) (fun _=>?_)
    refine(Zup hb hin).bind fun y _=>Zg (fun _=>Zb trivial) (fun _=>?_)
    exact(Zov b.2 (by omega)).bind fun y _=>Zg (fun _=>Zb trivial) (fun _=>Zb trivial)
end Go.Lc
end
section
namespace Go.Lc
open Go.RowKit
open Go.Av
set_option linter.unusedVariables false
set_option linter.unusedSimpArgs false
set_option maxRecDepth 100000
structure PrmOk (p:Tapi_Params):Prop where
 bits:M32 p.1.2.2.2.2.1
 lim:dg p.2.1
 win:1≤p.2.2.1∧p.2.2.1≤4096
 spa:1≤p.2.2.2.1∧p.2.2.2.1≤1048576
 cps:p.2.2.2.2.2.2.1=[]
 sub:0≤p.2.2.2.2.2.2.2.1∧p.2.2.2.2.2.2.2.1≤2100000000000000
 hal:1≤p.2.2.2.2.2.2.2.2.1∧p.2.2.2.2.2.2.2.2.1≤16777216
theorem Zef {p:Tapi_Params}(h:PrmOk p):Tot (Xg p) fun _=>True:=by
 unfold Xg;refine(ZkT _).bind fun y _=>Zg (fun _=>Zb trivial) (fun _=>Zg (fun _=>Zb trivial) (fun _=>?_))
 refine YX ([]:List Nat) (fun _=>True) (by simp) trivial (fun i hi=>absurd hi (by simp)) fun _=>?_
 simp only[Zij];rw[h.cps,if_neg (by simp)]
 have hk:Tot (Zf6 p) fun _=>True:=by
  unfold Zf6;refine(Zmf h.bits).bind fun y _=>?_
  have h5:Tot (if y.2=0 then(YJ y.1 p.2.1).bind fun y17=>some (decide (y17≤0)) else some false) fun _=>True :=
   Zg (fun _=>(Zkq _ _).bind fun z _=>Zb trivial) (fun _=>Zb trivial)
  exact h5.bind fun z _=>Zb trivial
 obtain⟨b,hb,-⟩:=hk;rw[hb];exact⟨b,rfl,trivial⟩
theorem Znw {p:Tapi_Params}(h:PrmOk p){n:Int}(hn:n≤100000000):Tot (Zbo p n) fun r=>0≤r∧r≤2100000000000000:=by
 unfold Zbo;refine(Zef h).bind fun y _=>Zg (fun _=>Zb (by omega)) (fun h0=>?_)
 have hn0:0≤n:=by
  apply Decidable.byContradiction
  intro c;exact h0 (.inr (by omega))
 have hh:=h.hal;have hs:=h.sub;refine Zx (by omega) ?_;have e:n.tdiv p.2.2.2.2.2.2.2.2.1=n / p.2.2.2.2.2.2.2.2.1:=Zff hn0 _;have e2:0≤n / p.2.2.2.2.2.2.2.2.1:=Int.ediv_nonneg hn0 (by omega);have e3:n / p.2.2.2.2.2.2.2.2.1≤n:=Int.ediv_le_self _ hn0;rw[e,wi _ (by omega)];generalize n / p.2.2.2.2.2.2.2.2.1=k at e2 e3;refine ZK (I:=fun(m:Nat) (s:Int×Int)=>(0≤s.1∧s.1≤2100000000000000)∧s.2≤(m:Int)∧0≤s.2∧s.2≤100000000) (n:=k.toNat) ?_ ⟨hs,by dsimp only; omega,e2,by dsimp only; omega⟩;rintro m ⟨s,j⟩ ⟨h1,h2,h3,h4⟩
 dsimp only at h1 h2 h3 h4;simp only[Lref23_Subsidy_s1];refine Zg (fun hc=>?_) (fun hc=>Tot.out (Zb h1));rw[Zff h1.1,wi (s / 2) (by omega),wi (j-1) (by omega)];exact Zb ⟨m-1,by omega,by dsimp only; omega,by dsimp only; omega,by dsimp only; omega,by dsimp only; omega⟩
theorem ZpH (t:Tapi_Tx) (ht:t.2.1.length≤1000) (n:Int):Tot (Zaf t n) fun _=>True:=by
 unfold Zaf;refine Zg (fun _=>Zb trivial) (fun _=>?_);refine YX t.2.1 (fun _=>True) (by omega) trivial ?_ ?_
 ·intro i hi _
  simp only[Zgb];rw[if_pos (by omega),Zi hi];exact Zg (fun _=>Zb (by trivial)) (fun _=>Zb ⟨Zp hi (by omega),trivial⟩)
 ·intro _
  simp only[Zgb];rw[if_neg (by omega)];exact⟨true,rfl,trivial⟩
theorem Znx (a b:Tapi_OutPoint):Tot (Y5 a b) fun _=>True:=by
 unfold Y5;refine ZK (I:=fun(n:Nat) (s:Int)=>s+(n:Int)=32∧0≤s) (n:=32) ?_ ⟨by omega,by omega⟩;rintro n s ⟨h1,h2⟩
 simp only[ZgT];refine Zg (fun h=>?_) (fun h=>?_)
 ·refine Y7 h2 h fun j _ hj=>Zg (fun _=>Zb trivial) (fun _=>Zg (fun _=>Zb trivial) (fun _=>?_))
  exact Zb ⟨n-1,by omega,by rw[wi _ (by omega)]; omega,by rw[wi _ (by omega)]; omega⟩
 ·refine Tot.out ?_
  unfold ZgS;exact Zg (fun _=>Zb trivial) (fun _=>Zg (fun _=>Zb trivial) (fun _=>Zb trivial))
theorem Zuq (l:Tapi_Ledger) (hl:l.2.2.length≤1000000000):Tot (Zdf l) fun _=>True:=by
 unfold Zdf;refine Zg (fun _=>Zb trivial) (fun h=>?_);refine ZK (I:=fun(n:Nat) (s:Int×Int)=>s.2+(n:Int)=(l.2.2.length:Int)∧0≤s.2) (n:=l.2.2.length) ?_ ⟨by simp,by simp⟩;rintro n ⟨s,i⟩ ⟨h1,h2⟩
 dsimp only at h1 h2;simp only[Zik];refine Zg (fun hi=>?_) (fun hi=>Tot.out (Zb trivial));refine XY h2 hi fun x _=>?_
 have h5:Tot (if 0<i then(idx (l.2.2) (IntKind.i64.wrap (i-1))).bind fun x18=>(Y5 x18.1 x.1).bind fun y19=>some (decide (0≤y19)) else some false) fun _=>True:=by
  refine Zg (fun h0=>?_) (fun _=>Zb trivial);rw[wi _ (by omega)];exact XY (by omega) (by omega) fun y _=>(Znx _ _).bind fun z _=>Zb trivial
 refine h5.bind fun z _=>Zg (fun _=>Zb trivial) (fun _=>Zg (fun _=>Zb trivial) (fun _=>Zg (fun _=>Zb trivial) (fun _=>?_)))
 exact Zb ⟨n-1,by omega,by dsimp only; rw[wi (i+1) (by omega)]; omega,by dsimp only; rw[wi (i+1) (by omega)]; omega⟩
theorem ZnZ (l:List Tapi_Coin) (o:Tapi_OutPoint) (hl:l.length≤1000000000):Tot (ZcA l o) fun r=>(r<0∧∀ c∈l,c.1≠o)∨∃ i:Nat,∃ h:i<l.length,r=(i:Int)∧l[i].1=o:=by
 unfold ZcA;refine YX l (fun n=>∀ i (h:i<l.length),i<n→l[i].1≠o) hl (fun i _ h=>absurd h (by omega)) ?_ ?_
 ·intro i hi hJ
  simp only[ZgI];rw[if_pos (by omega),Zi hi];refine Zg (fun hc=>Zb (.inr ⟨i,hi,rfl,Prod.ext hc.1 hc.2⟩)) (fun hc=>Zb ⟨Zp hi (by omega),fun k hk hk2=>?_⟩);by_cases e:k=i
  ·subst e
   exact fun c=>hc ⟨congrArg Prod.fst c,congrArg Prod.snd c⟩
  ·exact hJ k hk (by omega)
 ·intro hJ
  simp only[ZgI];rw[if_neg (by omega)];refine⟨-1,rfl,.inl ⟨by omega,fun c hc=>?_⟩⟩;obtain⟨i,hi,rfl⟩:=List.getElem_of_mem hc;exact hJ i hi hi
theorem Zny (c:Tapi_Coin) (h:c.2.1.2.length≤1000000):ZaO c=some c:=by
 unfold ZaO;rw[ZqW _ (by omega),Za]
end Go.Lc
end
section
namespace Go.Lc
open Go.RowKit
open Go.Av
set_option linter.unusedVariables false
set_option linter.unusedSimpArgs false
set_option maxRecDepth 100000
def ScrM (s:List Int):Prop:=∃ j,(1≤j∧j≤6)∧s=[1,1,j,5]
def Zkf (c:Tapi_Coin):Prop:=Byt c.1.1.l∧ScrM c.2.1.2
theorem ScrM.len {s:List Int}(h:ScrM s):s.length=4:=by obtain⟨j,_,rfl⟩:=h; rfl
theorem ScrM.byt {s:List Int}(h:ScrM s):Byt s:=by
 obtain⟨j,hj,rfl⟩:=h;intro x hx;simp at hx
 omega
theorem Zli (t:Tapi_Tx) (ht:t.2.2.1.length≤1000) (h:Int):Tot (ZaE t h) fun r=>r.length=t.2.2.1.length∧∀ c∈r,c.1.1=idS t∧∃ o∈t.2.2.1,c.2.1=o:=by
 unfold ZaE;rw[Zq2,Za];refine ZK (I:=fun(n:Nat) (s:Int×List Tapi_Coin)=>s.1+(n:Int)=(t.2.2.1.length:Int)∧(s.2.length:Int)=s.1∧∀ c∈s.2,c.1.1=idS t∧∃ o∈t.2.2.1,c.2.1=o) (n:=t.2.2.1.length) ?_ ⟨by simp,by simp,by simp⟩;rintro n ⟨i,acc⟩ ⟨h1,h2,h3⟩
 dsimp only at h1 h2 h3;simp only[ZgV];refine Zg (fun hi=>?_) (fun hi=>?_)
 ·refine XY (by omega) hi fun o ho=>?_
  rw[ZmL,Za];refine Zx (by omega) (Zb ⟨n-1,by omega,?_,?_,?_⟩)
  ·dsimp only
   rw[wi _ (by omega)];omega
  ·dsimp only
   rw[wi _ (by omega)];simp
   omega
  ·intro c hc
   rcases List.mem_append.1 hc with hc | hc
   ·exact h3 c hc
   ·obtain rfl:=List.mem_singleton.1 hc
    exact⟨rfl,o,ho,rfl⟩
 ·exact Tot.out (Zb ⟨by omega,h3⟩)
theorem ZvU {l:List Tapi_Coin}{c:Tapi_Coin}(hl:l.length≤1000000) (hs:c.2.1.2.length≤1000000):Tot (Zbx l c) fun r=>r.length=l.length+1∧∀ x∈r,x∈l∨x=c:=by
 unfold Zbx;refine ZK (I:=fun(n:Nat) (s:Int×List Tapi_Coin)=>s.1+(n:Int)=(l.length:Int)∧0≤s.1∧(s.2.length:Int)≤s.1∧∀ x∈s.2,x∈l) (n:=l.length) ?_ ⟨by simp,by simp,by simp,by simp⟩;rintro n ⟨i,acc⟩ ⟨h1,h2,h3,h4⟩
 dsimp only at h1 h2 h3 h4;simp only[ZiT,ZcQ];refine Zg (fun hi=>?_) (fun hi=>?_)
 ·refine XY h2 hi fun x hx=>?_
  refine(Znx _ _).bind fun y _=>Zg (fun _=>?_) (fun _=>?_)
  ·refine Zx (by omega) (Zb ⟨n-1,by omega,?_,?_,?_,?_⟩)
   ·dsimp only
    rw[wi _ (by omega)];omega
   ·dsimp only
    rw[wi _ (by omega)];omega
   ·dsimp only
    rw[wi _ (by omega)];simp
    omega
   ·intro z hz
    rcases List.mem_append.1 hz with hz | hz
    ·exact h4 z hz
    ·obtain rfl:=List.mem_singleton.1 hz
     exact hx
  ·refine Zb ⟨n-1,by omega,?_,?_,?_,h4⟩
   ·dsimp only
    rw[wi _ (by omega)];omega
   ·dsimp only
    rw[wi _ (by omega)];omega
   ·dsimp only
    rw[wi _ (by omega)];omega
 ·refine Tot.out ?_
  unfold ZiS;rw[Zny c hs,Za];refine Zx (by omega) (Zx (by omega) (Zx (by simp; omega) (Zb ⟨?_,?_⟩)))
  ·simp
   omega
  ·intro x hx
   simp only[List.append_assoc,List.mem_append,List.mem_singleton] at hx;rcases hx with hx | hx | hx
   ·exact .inl (h4 x hx)
   ·exact .inr hx
   ·exact .inl (List.mem_of_mem_drop hx)
theorem Zur {l:List Tapi_Coin}{t:Tapi_Tx}(hl:l.length≤200000) (ht:t.2.2.1.length≤1000) (hs:∀ o∈t.2.2.1,o.2.length≤1000000) (h:Int):Tot (ZgJ l t h) fun r=>r.2=0→r.1.length=l.length+t.2.2.1.length∧∀ c∈r.1,c∈l∨c.1.1=idS t∧∃ o∈t.2.2.1,c.2.1=o:=by
 unfold ZgJ;refine(Zli t ht h).bind fun y hy=>?_
 refine YX y (fun _=>True) (by omega) trivial ?_ ?_
 ·intro i hi _
  simp only[Zhw];rw[if_pos (by omega),Yu hi,Ze9 hi];refine(ZnZ l _ (by omega)).bind fun z _=>Zg (fun _=>Zb (by intro h; simp at h)) (fun _=>Zb ⟨Zp hi (by omega),trivial⟩)
 ·intro _
  simp only[Zhw];rw[if_neg (by omega)];refine Tot.inr ?_;unfold Zfx;refine(Zli t ht h).bind fun z hz=>?_
  refine ZK (I:=fun(n:Nat) (s:List Tapi_Coin×Int)=>s.2+(n:Int)=(z.length:Int)∧0≤s.2∧(s.1.length:Int)=l.length+s.2∧∀ c∈s.1,c∈l∨c∈z) (n:=z.length) ?_ ⟨by simp,by simp,by simp,fun c hc=>.inl hc⟩;rintro n ⟨acc,i⟩ ⟨h1,h2,h3,h4⟩
  dsimp only at h1 h2 h3 h4;simp only[ZjE];refine Zg (fun hi=>?_) (fun hi=>?_)
  ·refine Y7 h2 hi fun j hj hj2=>ZdK hj2 fun x hx=>?_
   have hxz:=List.mem_of_getElem? hx;obtain⟨_,o,ho,hxo⟩:=hz.2 x hxz;refine(ZvU (l:=acc) (c:=x) (by omega) (by rw[hxo]; exact hs o ho)).bind fun r hr=>Zb ⟨n-1,by omega,?_,?_,?_,?_⟩
   ·dsimp only
    rw[wi _ (by omega)];omega
   ·dsimp only
    rw[wi _ (by omega)];omega
   ·dsimp only
    rw[wi _ (by omega)];omega
   ·intro c hc
    rcases hr.2 c hc with hc | rfl
    ·exact h4 c hc
    ·exact .inr hxz
  ·refine Tot.out (Zb fun _=>⟨by dsimp only; omega,fun c hc=>?_⟩)
   rcases h4 c hc with hc | hc
   ·exact .inl hc
   ·exact .inr (hz.2 c hc)
theorem Zus {p:Tapi_Params}{l:List Tapi_Coin}{t:Tapi_Tx}(hl:l.length≤1000000) (hs:∀ c∈l,c.2.1.2.length≤1000000) (ht:t.2.1.length≤1000) (h:Int):Tot (ZeA p l t h) fun r=>r.2=0→r.1.length=t.2.1.length∧(∀ c∈r.1,c∈l)∧∀ j (h1:j<r.1.length) (h2:j<t.2.1.length),r.1[j].1=t.2.1[j].1:=by
 unfold ZeA;refine ZK (I:=fun(n:Nat) (s:Int×List Tapi_Coin)=>s.1+(n:Int)=(t.2.1.length:Int)∧(s.2.length:Int)=s.1∧(∀ c∈s.2,c∈l)∧∀ j (h1:j<s.2.length) (h2:j<t.2.1.length),s.2[j].1=t.2.1[j].1) (n:=t.2.1.length) ?_ ⟨by simp,by simp,by simp,fun j h1=>absurd h1 (by simp)⟩;rintro n ⟨i,acc⟩ ⟨h1,h2,h3,h4⟩
 dsimp only at h1 h2 h3 h4;simp only[Zio];refine Zg (fun hi=>?_) (fun hi=>?_)
 ·obtain⟨k,rfl⟩:=Int.eq_ofNat_of_zero_le (show 0≤i by omega)
  rw[Zi (by omega)];refine(ZnZ l _ (by omega)).bind fun y hy=>Zg (fun _=>Zb (by intro h; simp at h)) (fun hneg=>?_)
  rcases hy with ⟨hy,_⟩ | ⟨q,hq,rfl,hq2⟩
  ·exact absurd hy hneg
  rw[Zi hq,Zny _ (hs _ (List.getElem_mem hq)),Za];refine Zx (by omega) (Zb ⟨n-1,by omega,?_,?_,?_,?_⟩)
  ·dsimp only
   rw[wi _ (by omega)];omega
  ·dsimp only
   rw[wi _ (by omega)];simp
   omega
  ·intro c hc
   rcases List.mem_append.1 hc with hc | hc
   ·exact h3 c hc
   ·obtain rfl:=List.mem_singleton.1 hc
    exact List.getElem_mem hq
  ·intro j h1' h2'
   dsimp only at h1' ⊢;by_cases hj:j<acc.length
   ·rw[List.getElem_append_left hj]
    exact h4 j hj h2'
   ·obtain rfl:j=acc.length:=by simp at h1'; omega
    obtain rfl:acc.length=k:=by omega
    simpa using hq2
 ·refine Tot.out ?_
  unfold ZdU;refine YX acc (fun _=>True) (by omega) trivial ?_ ?_
  ·intro k hk _
   simp only[Zgd];rw[if_pos (by omega),Yu hk,Ze9 hk];exact Zg (fun _=>Zb (by intro h; simp at h)) (fun _=>Zb ⟨Zp hk (by omega),trivial⟩)
  ·intro _
   simp only[Zgd];rw[if_neg (by omega)];exact⟨(acc,0),rfl,fun _=>⟨by dsimp only; omega,h3,h4⟩⟩
theorem Ztc {l:List Tapi_Coin}{i:Nat}(hi:i<l.length) (hl:l.length≤1000000):ZcP l (i:Int)=some (l.take i++l.drop (i+1)):=by
 unfold ZcP;rw[Zj (by omega),Zj (by simp; omega),wi _ (by omega),Zj (by omega),Zj (by simp; omega)];rw[show((i:Int)+1).toNat=i+1 by omega,Int.toNat_natCast]
theorem ZpI (l:List Tapi_Coin) (hl:l.length≤1000000000):Tot (Zdh l) fun _=>True:=by
 unfold Zdh;refine ZK (I:=fun(n:Nat) (s:Int×Int)=>s.2+(n:Int)=(l.length:Int)∧0≤s.2) (n:=l.length) ?_ ⟨by simp,by simp⟩;rintro n ⟨s,i⟩ ⟨h1,h2⟩
 dsimp only at h1 h2;simp only[Ziq];refine Zg (fun hi=>?_) (fun hi=>Tot.out (Zb trivial));refine XY h2 hi fun x _=>Zb ⟨n-1,by omega,?_,?_⟩
 ·dsimp only
  rw[wi (i+1) (by omega)];omega
 ·dsimp only
  rw[wi (i+1) (by omega)];omega
theorem Zut {p:Tapi_Params}(hp:PrmOk p) (l:Tapi_Ledger) (hl:l.2.2.length≤1000000000) (b:Tapi_Block):Tot (Zez p l b) fun r=>r=0→ZnY b:=by
 unfold Zez;refine(Zef hp).bind fun y _=>?_
 have h5:Tot (if ¬ (y=true) then some false else(Zdf l).bind fun y2=>some (!(y2))) fun _=>True :=
  Zg (fun _=>Zb trivial) (fun _=>(Zuq l hl).bind fun z _=>Zb trivial)
 refine h5.bind fun z _=>Zg (fun _=>Zb (by simp)) (fun _=>Zg (fun _=>Zb (by simp)) (fun _=>Zg (fun _=>Zb (by simp)) (fun _=>?_)))
 refine(Zrv b).bind fun e he=>Zg (fun hne=>Zb (by intro h; exact absurd h hne)) (fun h0=>?_)
 have hB:=he (Decidable.byContradiction h0);have hlen:0<b.2.length:=List.length_pos_iff.2 hB.ne;refine ZdK hlen fun x hx=>?_
 have hx0:b.2[0]=x:=by rw[List.getElem?_eq_getElem hlen] at hx; exact Option.some.inj hx
 have hcb:=hB.cb 0 hlen;rw[hx0] at hcb;have hcb:cbS x=true:=by simpa using hcb
 have hin:x.2.1.length=1:=by
  unfold cbS at hcb;split at hcb
  ·rename_i h; rw[h]; rfl
  ·cases hcb
 refine ZdK (by omega) fun q _=>Zg (fun _=>Zb (by simp)) (fun _=>?_)
 refine(ZpH x (by omega) _).bind fun r _=>Zg (fun _=>Zb (by simp)) (fun _=>Zb fun _=>hB)
end Go.Lc
end
section
namespace Go.Lc
open Go.RowKit
open Go.Av
set_option linter.unusedVariables false
set_option linter.unusedSimpArgs false
set_option maxRecDepth 100000
end Go.Lc
end
section
namespace Go.Lc
open Go.RowKit
open Go.Av
set_option linter.unusedVariables false
set_option linter.unusedSimpArgs false
set_option maxRecDepth 100000
def dg8 (a:Arr 8):Prop:=∀ i,i<8→M64 (a.at i)
theorem dg8_zero:dg8 (zA 8):=by
 intro i hi;have:i=0∨i=1∨i=2∨i=3∨i=4∨i=5∨i=6∨i=7:=by omega
 rcases this with rfl | rfl | rfl | rfl | rfl | rfl | rfl | rfl <;> exact⟨by decide,by decide⟩
theorem Zr8 {a:Arr 8}(h:dg8 a){j:Nat}(hj:j<8){x:Int}(hx:M64 x):dg8 (a.put j x):=by
 intro i hi;by_cases e:j=i
 ·subst e
  rw[Arr.at_put _ hi];exact hx
 ·rw[Arr.at_put_ne _ e]
  exact h i hi
theorem Zr9 {l:List Int}(hl:l.length=4) (h:∀ x∈l,M64 x):dg ((zA 4).over l):=by
 intro i hi
 have e:(zA 4).over l=⟨l,hl⟩:=by
  unfold Arr.over;have h4:(zA 4).l.length=4:=(zA 4).hl
  congr 1
  rw[List.take_of_length_le (by omega),List.drop_of_length_le (by omega),List.append_nil]
 rw[e];have:(⟨l,hl⟩:Arr 4).at i=l[i]'(by omega):=by simp[Arr.at,hl,hi]
 rw[this];exact h _ (List.getElem_mem _)
theorem Zxa {a:Arr 8}(h:dg8 a):∀ x∈a.l,M64 x:=by
 intro x hx;obtain⟨i,hi,rfl⟩:=List.getElem_of_mem hx;have hl:=a.hl;have:=h i (by omega);rw[Arr.at,List.getD_eq_getElem?_getD,List.getElem?_eq_getElem hi] at this;exact this
theorem Zxb {a b:Arr 4}(ha:dg a) (hb:dg b):Tot (ZgK a b) fun r=>dg r.1∧dg r.2:=by
 unfold ZgK;refine ZK (I:=fun(n:Nat) (s:Int×Arr 8)=>s.1+(n:Int)=4∧0≤s.1∧dg8 s.2) (n:=4) ?_ ⟨by simp,by simp,dg8_zero⟩;rintro n ⟨i,w⟩ ⟨h1,h2,h3⟩
 dsimp only at h1 h2 h3;simp only[ZjG];refine Zg (fun h=>?_) (fun h=>?_)
 ·refine ZK (I:=fun(k:Nat) (s:Int×Int×Arr 8)=>s.2.1+(k:Int)=4∧0≤s.2.1∧M64 s.1∧dg8 s.2.2) (n:=4) ?_ ⟨by simp,by simp,⟨by simp,by simp⟩,h3⟩
  rintro k ⟨c,j,w⟩ ⟨k1,k2,k3,k4⟩
  dsimp only at k1 k2 k3 k4;simp only[ZjF];refine Zg (fun hj=>?_) (fun hj=>?_)
  ·refine Y7 h2 h fun p hp hp4=>Y7 k2 hj fun q hq hq4=>?_
   refine(show Tot (XJ (a.at p) (b.at q)) fun r=>M64 r.1∧M64 r.2 from Zb ⟨Zhm _,Zhm _⟩).bind fun y hy=>?_
   rw[wi (i+j) (by omega)];refine Y7 (by omega) (by omega) fun z hz hz8=>?_
   refine(ZmU (k4 z hz8) hy.2 (by omega)).bind fun u hu=>?_
   refine(ZmU hu.1 k3 (by omega)).bind fun v hv=>?_
   refine Zb ⟨k-1,by omega,?_,?_,Zhm _,Zr8 k4 hz8 hv.1⟩
   ·dsimp only
    rw[wi (j+1) (by omega)];omega
   ·dsimp only
    rw[wi (j+1) (by omega)];omega
  ·refine Tot.out ?_
   unfold Zfy;rw[wi (i+4) (by omega)];refine Y7 (by omega) (by omega) fun z hz hz8=>Zb ⟨n-1,by omega,?_,?_,Zr8 k4 hz8 k3⟩
   ·dsimp only
    rw[wi (i+1) (by omega)];omega
   ·dsimp only
    rw[wi (i+1) (by omega)];omega
 ·refine Tot.out (Zb ?_)
  have hl:=w.hl;have hm:=Zxa h3;exact⟨Zr9 (by rw[List.length_drop,hl]) fun x hx=>hm x (List.mem_of_mem_drop hx),Zr9 (by rw[List.length_take,hl]; rfl) fun x hx=>hm x (List.mem_of_mem_take hx)⟩
theorem Zuu {x y c:Int}(hx:M64 x) (hy:M64 y) (hc:0≤c∧c≤1):Tot (Zav x y c) fun r=>M64 r.1∧0≤r.2∧r.2≤1:=by
 unfold Zav;refine Zx (by omega) (Zb ⟨by simp only; omega,?_⟩);simp only;split <;> omega
theorem Zxc {a b:Arr 4}(ha:dg a) (hb:dg b):Tot (ZgG a b) fun r=>dg r.1:=by
 unfold ZgG;refine ZK (I:=fun(n:Nat) (s:Int×Int×Arr 4)=>s.2.1+(n:Int)=4∧0≤s.2.1∧(0≤s.1∧s.1≤1)∧dg s.2.2) (n:=4) ?_ ⟨by simp,by simp,by simp,dg_zero⟩;rintro n ⟨c,i,r⟩ ⟨h1,h2,h3,h4⟩
 dsimp only at h1 h2 h3 h4;simp only[ZjD];refine Zg (fun h=>?_) (fun h=>?_)
 ·refine Y7 h2 h fun j hj hj4=>?_
  refine(Zuu (ha j hj4) (hb j hj4) h3).bind fun y hy=>Zb ⟨n-1,by omega,?_,?_,hy.2,ZfA h4 hj4 hy.1⟩
  ·dsimp only
   rw[wi _ (by omega)];omega
  ·dsimp only
   rw[wi _ (by omega)];omega
 ·exact Tot.out (Zb h4)
theorem Zxd {a b c:Arr 4}(ha:dg a) (hb:dg b) (hc:dg c):Tot (ZgL a b c) fun r=>dg r.1:=by
 unfold ZgL;refine(Zkq _ _).bind fun y _=>Zg (fun _=>Zb dg_zero) (fun _=>?_)
 refine ZK (I:=fun(n:Nat) (s:Int×Arr 4×Arr 4)=>s.1+1=(n:Int)∧s.1≤255∧dg s.2.1∧dg s.2.2) (n:=256) ?_ ⟨by simp,by simp,dg_zero,ha⟩;rintro n ⟨i,q,r⟩ ⟨h1,h2,h3,h4⟩
 dsimp only at h1 h2 h3 h4;simp only[ZjI];refine Zg (fun h=>?_) (fun h=>Tot.out (Zb h3));refine(Zkp r (by omega) (by omega)).bind fun o _=>(Zr6 h4 h4).bind fun s hs=>(Zkp b h (by omega)).bind fun t _=>?_
 have key:∀ p,dg p→Tot (ZdH o c i q p) (Nx (fun(n:Nat) (s:Int×Arr 4×Arr 4)=>s.1+1=(n:Int)∧s.1≤255∧dg s.2.1∧dg s.2.2) (fun r=>dg r.1) n):=by
  intro p hp;unfold ZdH
  have h5:Tot (if o=true then some false else(YJ p c).bind fun y45=>some (decide (0≤y45))) fun _=>True :=
   Zg (fun _=>Zb trivial) (fun _=>(Zkq _ _).bind fun z _=>Zb trivial)
  have nxt:∀ q' p',dg q'→dg p'→Tot (Zfz i q' p') (Nx (fun(n:Nat) (s:Int×Arr 4×Arr 4)=>s.1+1=(n:Int)∧s.1≤255∧dg s.2.1∧dg s.2.2) (fun r=>dg r.1) n):=by
   intro q' p' hq hp';refine Zb ⟨n-1,by omega,?_,?_,hq,hp'⟩
   ·dsimp only
    rw[wi (i-1) (by omega)];omega
   ·dsimp only
    rw[wi (i-1) (by omega)];omega
  refine h5.bind fun z _=>Zg (fun _=>?_) (fun _=>nxt q p h3 hp)
  refine(Zxc hp hc).bind fun v hv=>?_
  rw[Zff h,Zdp h,wi (i / 64) (by omega)];exact Y7 (by omega) (by omega) fun j hj hj4=>Zx (by omega) (nxt _ _ (ZfA h3 hj4 (ZiD _ _ _)) hv)
 exact Zg (fun _=>key _ (ZfA hs (by omega) (ZiD _ _ _))) (fun _=>key _ hs)
end Go.Lc
end
section
namespace Go.Lc
open Go.RowKit
open Go.Av
set_option linter.unusedVariables false
set_option linter.unusedSimpArgs false
set_option maxRecDepth 100000
def sm (a:Arr 4) (k:Nat):Prop:=0≤a.at 0∧a.at 0<2 ^ k∧a.at 1=0∧a.at 2=0∧a.at 3=0
theorem Zsa (k:Nat):sm (zA 4) k:=⟨by decide,Int.pow_pos (by decide),by decide,by decide,by decide⟩
theorem Zsb {a:Arr 4}{k m:Nat}(h:sm a k) (hk:k≤m):sm a m:=by
 obtain⟨h1,h2,h3⟩:=h;exact⟨h1,by have:(2:Int) ^ k≤2 ^ m:=(by exact_mod_cast Nat.pow_le_pow_right (n:=2) (by decide) hk); omega,h3⟩
theorem ZpJ (x:Int):IntKind.u64.wrap x=x % 18446744073709551616:=by
 have:=Zhm x;unfold IntKind.wrap IntKind.bits;simp
theorem Zy5 {x:Int}{k:Nat}(hk:k≤16) (h0:0≤x) (h1:x<2 ^ k):0≤bits .or .u64 x (IntKind.u64.wrap (1 * 2 ^ k))∧bits .or .u64 x (IntKind.u64.wrap (1 * 2 ^ k))<2 ^ (k+1):=by
 obtain⟨m,rfl⟩:=Int.eq_ofNat_of_zero_le h0;have hm:m<2 ^ k:=by exact_mod_cast h1
 have hp:(2:Nat) ^ k≤65536:=Nat.pow_le_pow_right (by decide) hk;have hp1:(2:Nat) ^ (k+1)≤131072:=Nat.pow_le_pow_right (n:=2) (by decide) (show k+1≤17 by omega)
 have e0:IntKind.u64.wrap (1 * 2 ^ k)=((2 ^ k:Nat):Int):=by
  rw[Int.one_mul,ZpJ,show(2:Int) ^ k=((2 ^ k:Nat):Int) from(Int.natCast_pow 2 k).symm];generalize (2:Nat) ^ k=z at hp ⊢;omega
 rw[e0]
 have e1:bits .or .u64 (m:Int) ((2 ^ k:Nat):Int)=((m ||| 2 ^ k:Nat):Int):=by
  show IntKind.u64.wrap ((BitVec.ofInt 64 (m:Int) ||| BitVec.ofInt 64 ((2 ^ k:Nat):Int)).toNat:Int)=_
  have q1:(BitVec.ofInt 64 (m:Int)).toNat=m:=by
   simp only[BitVec.toNat_ofInt];omega
  have q2:(BitVec.ofInt 64 ((2 ^ k:Nat):Int)).toNat=2 ^ k:=by
   simp only[BitVec.toNat_ofInt];generalize (2:Nat) ^ k=z at hp ⊢;omega
  rw[BitVec.toNat_or,q1,q2,ZpJ];have:m ||| 2 ^ k<2 ^ (k+1):=Nat.or_lt_two_pow (by rw[Nat.pow_succ]; omega) (by rw[Nat.pow_succ]; have:=Nat.two_pow_pos k; omega)
  generalize m ||| 2 ^ k=z at this ⊢
  omega
 rw[e1];have:m ||| 2 ^ k<2 ^ (k+1):=Nat.or_lt_two_pow (by rw[Nat.pow_succ]; omega) (by rw[Nat.pow_succ]; have:=Nat.two_pow_pos k; omega)
 exact⟨by omega,by exact_mod_cast this⟩
theorem Zuv {a:Arr 4}(ha:dg a){n:Int}(hn:240≤n) (hn2:n≤100000):Tot (Xw a n) fun r=>dg r∧sm r 16:=by
 unfold Xw;refine Zg (fun _=>by omega) (fun h=>Zg (fun _=>Zb ⟨dg_zero,Zsa _⟩) (fun h'=>?_));refine ZK (I:=fun(k:Nat) (s:Int×Arr 4)=>s.1+(k:Int)=256-n∧0≤s.1∧dg s.2∧sm s.2 s.1.toNat) (n:=(256-n).toNat) ?_ ⟨by simp; omega,by simp,dg_zero,Zsa _⟩;rintro k ⟨i,r⟩ ⟨h1,h2,h3,h4⟩
 dsimp only at h1 h2 h3 h4;simp only[ZdB,Za7];rw[wi (i+n) (by omega)];refine Zg (fun h=>?_) (fun h=>?_)
 ·have e1:(i+1).toNat=i.toNat+1:=by omega
  refine(Zkp a (by omega) h).bind fun y _=>Zg (fun _=>?_) (fun _=>?_)
  ·rw[Zff h2,Zdp h2,wi (i / 64) (by omega)]
   refine Y7 (by omega) (by omega) fun j hj hj4=>Zx (by omega) (Zb ⟨k-1,by omega,?_,?_,ZfA h3 hj4 (ZiD _ _ _),?_⟩)
   ·dsimp only
    rw[wi _ (by omega)];omega
   ·dsimp only
    rw[wi _ (by omega)];omega
   ·dsimp only
    rw[wi _ (by omega),e1];obtain rfl:j=0:=by omega
    have e2:min (i % 64).toNat 64=i.toNat:=by omega
    rw[e2];obtain⟨g1,g2,g3,g4,g5⟩:=h4;have:=Zy5 (k:=i.toNat) (by omega) g1 g2;refine⟨?_,?_,?_,?_,?_⟩
    ·rw[Arr.at_put _ (by omega)]
     exact this.1
    ·rw[Arr.at_put _ (by omega)]
     exact this.2
    ·rw[Arr.at_put_ne _ (by omega)]
     exact g3
    ·rw[Arr.at_put_ne _ (by omega)]
     exact g4
    ·rw[Arr.at_put_ne _ (by omega)]
     exact g5
  ·refine Zb ⟨k-1,by omega,?_,?_,h3,?_⟩
   ·dsimp only
    rw[wi _ (by omega)];omega
   ·dsimp only
    rw[wi _ (by omega)];omega
   ·dsimp only
    rw[wi _ (by omega),e1];exact Zsb h4 (by omega)
 ·exact Tot.out (Zb ⟨h3,Zsb h4 (by omega)⟩)
theorem Zuw {a:Arr 4}(h:sm a 16){n:Int}(h0:16≤n) (h1:n<256):Tot (XW a n) fun r=>r=false:=by
 unfold XW;rw[Zff (by omega),Zdp (by omega),wi (n / 64) (by omega)];refine Y7 (by omega) (by omega) fun j hj hj4=>Zx (by omega) (Zb ?_)
 have e:(a.at j).fdiv (2 ^ (min (n % 64).toNat 64))=0:=by
  obtain⟨g1,g2,g3,g4,g5⟩:=h;have hpos:(0:Int)<2 ^ (min (n % 64).toNat 64):=Int.pow_pos (by decide);have:j=0∨j=1∨j=2∨j=3:=by omega
  rcases this with rfl | rfl | rfl | rfl
  ·rw[Int.fdiv_eq_ediv_of_nonneg _ (by omega)]
   refine Int.ediv_eq_zero_of_lt g1 (Int.lt_of_lt_of_le g2 ?_)
   exact_mod_cast Nat.pow_le_pow_right (n:=2) (by decide) (show 16≤min (n % 64).toNat 64 by omega)
  ·rw[g3]; simp
  ·rw[g4]; simp
  ·rw[g5]; simp
 rw[e];decide
theorem Zux {a:Arr 4}(h:sm a 16):Tot (Zak a) fun r=>r≤16:=by
 unfold Zak;refine ZK (I:=fun(n:Nat) (s:Int)=>s+1=(n:Int)∧s≤255) (n:=256) ?_ ⟨by omega,by omega⟩;rintro n s ⟨hs,hs2⟩
 simp only[ZdD];refine Zg (fun h0=>?_) (fun h0=>Tot.out (Zb (by omega)));by_cases h16:16≤s
 ·refine(Zuw h h16 (by omega)).bind fun y hy=>Zg (fun hy2=>?_) (fun _=>?_)
  ·rw[hy] at hy2
   cases hy2
  ·exact Zb ⟨n-1,by omega,by rw[wi _ (by omega)]; omega,by rw[wi _ (by omega)]; omega⟩
 ·refine(Zkp a h0 (by omega)).bind fun y hy=>Zg (fun hy2=>?_) (fun _=>?_)
  ·exact Zb (show IntKind.i64.wrap (s+1)≤16 by rw[wi (s+1) (by omega)]; omega)
  ·exact Zb ⟨n-1,by omega,by rw[wi _ (by omega)]; omega,by rw[wi _ (by omega)]; omega⟩
theorem Zrw {a:Arr 4}(ha:dg a):Tot (ZcT a) M32:=by
 unfold ZcT;refine(ZkT a).bind fun y _=>Zg (fun _=>Zb ⟨by omega,by omega⟩) (fun _=>?_)
 refine ZK (I:=fun(n:Nat) (s:Int)=>s+(n:Int)=33∧1≤s) (n:=32) ?_ ⟨by omega,by omega⟩;rintro n s ⟨h1,h2⟩
 have nxt:1≤n→Nx (fun(n:Nat) (s:Int)=>s+(n:Int)=33∧1≤s) M32 n (.inl (IntKind.i64.wrap (s+1))):=fun hn =>
  ⟨n-1,by omega,by rw[wi _ (by omega)]; omega,by rw[wi _ (by omega)]; omega⟩
 have key:∀ r,1≤n∨sm r 16→Tot (Za0 s r) (Nx (fun(n:Nat) (s:Int)=>s+(n:Int)=33∧1≤s) M32 n):=by
  intro r hr;unfold Za0;rcases hr with hr | hr
  ·exact(Zr5 r).bind fun z _=>Zg (fun _=>Zb (Zun _ _ _)) (fun _=>Zb (nxt hr))
  ·exact(Zux hr).bind fun z hz=>Zg (fun _=>Zb (Zun _ _ _)) (fun h=>absurd (show z≤23 by omega) h)
 simp only[ZgX];refine Zg (fun h3=>?_) (fun h3=>?_)
 ·rw[wi (3-s) (by omega),wi (8 * (3-s)) (by omega)]
  refine(Zr7 ha (by omega)).bind fun u hu=>(Zni hu _).bind fun v hv=>(Zkq _ _).bind fun w _=>Zg (fun _=>Zb (nxt (by omega))) (fun _=>key u (.inl (by omega)))
 ·rw[wi (s-3) (by omega),wi (8 * (s-3)) (by omega)]
  by_cases h33:s=33
  ·exact(Zuv ha (by omega) (by omega)).bind fun u hu=>key u (.inr hu.2)
  ·exact(Zni ha _).bind fun u hu=>key u (.inl (by omega))
theorem Ztd {p:Tapi_Params}(hp:PrmOk p){b:Int}(hb:M32 b) (x y:Int):Tot (ZdI p b x y) fun r=>M32 r.1:=by
 unfold ZdI;refine(Zef hp).bind fun v _=>Zg (fun _=>Zb ⟨by simp,by simp⟩) (fun _=>?_)
 refine(Zmf hb).bind fun t ht=>Zg (fun _=>Zb ⟨by simp,by simp⟩) (fun _=>?_)
 have k3:∀ a,dg a→Tot (Zdi a) fun r=>M32 r.1:=fun a ha=>by
  unfold Zdi;exact(Zrw ha).bind fun z hz=>Zb hz
 have k2:∀ a,dg a→Tot (Zdj a) fun r=>M32 r.1:=fun a ha=>by
  unfold Zdj;refine(ZkT a).bind fun z _=>Zg (fun _=>?_) (fun _=>k3 a ha)
  rw[Zme,Za];exact k3 _ (Znh ⟨by omega,by omega⟩)
 have k1:∀ q,M64 q→Tot (Zdk p t q) fun r=>M32 r.1:=fun q hq=>by
  unfold Zdk;rw[Zme,Za]
  have hd:∀ c d e:Int,M64 c→M64 d→M64 e→M64 (if c<(if q<d then e else q) then c else(if q<d then e else q)):=by
   intro c d e hc hd he
   have h1:M64 (if q<d then e else q):=by
    split
    ·exact he
    ·exact hq
   generalize (if q<d then e else q)=w at h1 ⊢;split
   ·exact hc
   ·exact h1
  refine(Zxb ht (Znh (hd _ _ _ (Zhm _) (Zhm _) (Zhm _)))).bind fun m hm=>?_
  rw[Zme,Za];refine(Zxd hm.1 hm.2 (Znh (Zhm _))).bind fun z hz=>?_
  have h5:Tot (if ¬ (z.2.2=true) then some false else(YJ z.1 p.2.1).bind fun y8=>some (decide (0<y8))) fun _=>True :=
   Zg (fun _=>Zb trivial) (fun _=>(Zkq _ _).bind fun _ _=>Zb trivial)
  exact h5.bind fun _ _=>Zg (fun _=>k2 _ hp.lim) (fun _=>k2 _ hz)
 exact Zg (fun _=>k1 _ (Zhm _)) (fun _=>k1 _ ⟨by omega,by omega⟩)
theorem Zow {p:Tapi_Params}(hp:PrmOk p){c:Tapi_Context}(hb:M32 c.2.2.1):Tot (Zdl p c) fun r=>M32 r.1:=by
 unfold Zdl;refine(Zef hp).bind fun v _=>Zg (fun _=>Zb ⟨by simp,by simp⟩) (fun h=>?_)
 have hw:=hp.win;refine Zx (by omega) (Zg (fun _=>Zb hb) (fun _=>?_));have hl:0<c.2.2.2.2.length∧c.2.2.2.2.length≤11:=by omega
 rw[wi _ (by omega)];exact XY (by omega) (by omega) fun x _=>(Ztd hp hb _ _).bind fun z hz=>Zb hz
theorem Zox (l:List Int) (hl:l.length≤1000):Tot (Zcb l) fun _=>True:=by
 unfold Zcb;refine ZK (I:=fun(n:Nat) (s:Int×List Int)=>s.1+(n:Int)=(l.length:Int)∧0≤s.1∧(s.2.length:Int)=s.1) (n:=l.length) ?_ ⟨by simp,by simp,by simp⟩;rintro n ⟨i,acc⟩ ⟨h1,h2,h3⟩
 dsimp only at h1 h2 h3;simp only[ZhM];refine Zg (fun h=>?_) (fun h=>?_)
 ·refine XY h2 h fun x _=>?_
  refine ZK (I:=fun(k:Nat) (s:Int)=>s+(k:Int)=(acc.length:Int)∧0≤s) (n:=acc.length) ?_ ⟨by omega,by omega⟩;rintro k s ⟨k1,k2⟩
  simp only[ZhL]
  have h5:Tot (if s<(acc.length:Int) then(inA (acc.length) s).bind fun j64=>(acc[j64]?).bind fun x65=>some (decide (x65≤x)) else some false) fun _=>True :=
   Zg (fun hs=>Y7 k2 hs fun j _ hj=>ZdK hj fun _ _=>Zb trivial) (fun _=>Zb trivial)
  refine h5.bind fun z _=>Zg (fun hz=>?_) (fun hz=>?_)
  ·exact Zb ⟨k-1,by omega,by rw[wi _ (by omega)]; omega,by rw[wi _ (by omega)]; omega⟩
  ·refine Tot.out ?_
   unfold Zdd;refine Zx (by omega) (Zx (by omega) (Zx ?_ (Zx ?_ (Zb ⟨n-1,by omega,?_,?_,?_⟩))))
   ·simp only[List.length_take,List.length_drop]
    omega
   ·simp only[List.length_take,List.length_drop]
    omega
   ·dsimp only
    rw[wi _ (by omega)];omega
   ·dsimp only
    rw[wi _ (by omega)];omega
   ·dsimp only
    rw[wi _ (by omega)];simp only[List.length_append,List.length_take,List.length_drop,List.length_cons,List.length_nil];omega
 ·refine Tot.out ?_
  unfold ZhK;refine Zg (fun _=>Zb trivial) (fun _=>?_);rw[Zff (by omega),wi _ (by omega)];exact Y7 (by omega) (by omega) fun j _ hj=>ZdK hj fun _ _=>Zb trivial
theorem ZvV {p:Tapi_Params}(hp:PrmOk p){c:Tapi_Context}(hb:M32 c.2.2.1) (ht:c.2.2.2.2.length≤1000) (r:Arr 32) (y:Int):Tot (ZfU p c r y) fun h=>M32 h.2.2.2.2.1:=by
 unfold ZfU;refine(Zow hp hb).bind fun b hb=>(Zox _ ht).bind fun m _=>?_
 refine ZK (I:=fun(n:Nat) (s:Int)=>s+(n:Int)=20000∧0≤s) (n:=20000) ?_ ⟨by omega,by omega⟩;rintro n s ⟨h1,h2⟩
 simp only[ZiU];refine Zg (fun h=>?_) (fun h=>Tot.out (Zb hb));rw[ZeO,Za];refine(ZpF _ hb).bind fun z _=>Zg (fun _=>Zb hb) (fun _=>Zb ⟨n-1,by omega,?_,?_⟩)
 ·rw[Zi7]
  omega
 ·rw[Zi7]
  omega
end Go.Lc
end
section
namespace Go.Lc
open Go.RowKit
open Go.Av
set_option linter.unusedVariables false
set_option linter.unusedSimpArgs false
set_option maxRecDepth 100000
def Zq4 (w:List (List Int)):Prop:=∃ k,(1≤k∧k≤6)∧w=[[k]]
theorem Zte {a:Int}(h0:0≤a):∃ j,Xd a=some [1,1,j,5]∧1≤j∧j≤6:=by
 unfold Xd;rw[Zdp h0,Za1];exact⟨_,rfl,by omega,by omega⟩
theorem Zhn {a:Int}(h0:0≤a):Tot (Xd a) ScrM:=by
 obtain⟨j,h,hj⟩:=Zte h0;exact⟨_,h,j,hj,rfl⟩
theorem ZvW {s:List Int}{w:List (List Int)}(hs:ScrM s) (hw:Zq4 w) (e:Tapi_Env):Tot (ZaF s w e) fun _=>True:=by
 obtain⟨j,hj,rfl⟩:=hs;obtain⟨k,hk,rfl⟩:=hw;unfold ZaF;rw[if_pos ⟨j,k,hj,hk,rfl,rfl⟩];exact Zb trivial
theorem Zq5 (o:Tapi_Output):(Zgp o).length≤17+o.2.length:=by
 have:=Zl2 o.2;unfold Zgp;rw[List.length_append,Zeb];omega
theorem Ztf (b:ByteArray) (hb:b.size≤1000){l:List Int}(hl:l.length≤1000000):Tot (Zal b l) fun _=>True:=by
 unfold Zal
 have e:(ZkD b).length≤1000:=by
  unfold ZkD;rw[List.length_map,Array.length_toList];exact hb
 refine Zx (by omega) ?_;rw[ZgP (by omega),Za];have h32:(ZaB (ZkD b)).l.length=32:=(ZaB (ZkD b)).hl;refine Zx (by omega) (Zx (by omega) (Zx (by omega) ?_));rw[ZgP (by simp only[List.length_append]; omega),Za];exact Zb trivial
theorem Zrx (t:Tapi_Tx) (i:Int) (o:Tapi_Output):Tot (ZcU t i o) fun r=>r.2=0→0≤i∧i<t.2.1.length:=by
 unfold ZcU;rw[Zfd,Za];refine Zg (fun _=>Zb (by simp)) (fun h=>Zg (fun _=>Zb (by simp)) (fun hi=>?_))
 have hf:Ys t=true:=by
  apply Decidable.byContradiction
  intro c;exact h (.inl (.inl c))
 have hso:o.2.length≤520:=by
  apply Decidable.byContradiction
  intro c;exact h (.inr (by omega))
 obtain⟨l1,l2,l3,l4⟩:=Zi5 hf;refine ZK (I:=fun(n:Nat) (s:Int×List Int×List Int)=>s.1+(n:Int)=(t.2.1.length:Int)∧0≤s.1∧(s.2.1.length:Int)=36 * s.1∧(s.2.2.length:Int)=4 * s.1) (n:=t.2.1.length) ?_ ⟨by simp,by simp,by simp,by simp⟩;rintro n ⟨k,a,b⟩ ⟨h1,h2,h3,h4⟩
 dsimp only at h1 h2 h3 h4;simp only[ZgZ];refine Zg (fun hk=>?_) (fun hk=>?_)
 ·refine XY h2 hk fun x _=>?_
  rw[Zpr,Za];have hp:=Zl3 x.1;refine Zx (by omega) ?_;rw[ZdJ (by omega),Za];refine Zb ⟨n-1,by omega,?_,?_,?_,?_⟩
  ·dsimp only
   rw[wi _ (by omega)];omega
  ·dsimp only
   rw[wi _ (by omega)];omega
  ·dsimp only
   rw[wi _ (by omega),List.length_append];omega
  ·dsimp only
   rw[wi _ (by omega),List.length_append,Zeb];omega
 ·refine Tot.out ?_
  unfold Zcm;refine ZK (I:=fun(n:Nat) (s:Int×List Int)=>s.1+(n:Int)=(t.2.2.1.length:Int)∧0≤s.1∧(s.2.length:Int)≤1000 * s.1) (n:=t.2.2.1.length) ?_ ⟨by simp,by simp,by simp⟩;rintro m ⟨q,c⟩ ⟨g1,g2,g3⟩
  dsimp only at g1 g2 g3;simp only[ZgY];refine Zg (fun hq=>?_) (fun hq=>?_)
  ·refine XY g2 hq fun x hx=>?_
   have hx5:=(l3 x hx).2;rw[ZoR (by omega),Za]
   have ho:(Zgp x).length≤1000:=by
    have:=Zq5 x;omega
   refine Zx (by omega) (Zb ⟨m-1,by omega,?_,?_,?_⟩)
   ·dsimp only
    rw[wi _ (by omega)];omega
   ·dsimp only
    rw[wi _ (by omega)];omega
   ·dsimp only
    rw[wi _ (by omega),List.length_append];omega
  ·refine Tot.out ?_
   unfold Zcl;have z1:(ZaB a).l.length=32:=(ZaB a).hl;have z2:(ZaB b).l.length=32:=(ZaB b).hl;have z3:(ZaB c).l.length=32:=(ZaB c).hl;rw[ZdJ (by simp),Za,ZgP (by omega),Za,Zi2 (by simp),Za,ZgP (by omega),Za,Zi2 (by simp),Za,ZgP (by omega),Za,Zi2 (by simp),Za,ZdJ (by simp),Za,ZdJ (by simp),Za,ZoR (by omega),Za]
   have ho:(Zgp o).length≤1000:=by
    have:=Zq5 o;omega
   refine Zx (by simp; omega) ?_;refine(Ztf _ (by decide) (by simp; omega)).bind fun z _=>Zb fun _=>?_
   omega
theorem Zuy {t:Tapi_Tx}{i:Int}{c:Tapi_Coin}{h:Int}(hs:ScrM c.2.1.2) (hw:∀ x∈t.2.1,Zq4 x.2.2):Tot (ZeG t i c h) fun _=>True:=by
 unfold ZeG;refine(Zrx t i c.2.1).bind fun m hm=>Zg (fun _=>Zb trivial) (fun h0=>?_)
 have hi:=hm (Decidable.byContradiction h0);refine XY hi.1 hi.2 fun x hx=>Zg (fun _=>Zb trivial) (fun _=>Zg (fun _=>Zb trivial) (fun _=>?_))
 exact(ZvW hs (hw x hx) _).bind fun _ _=>Zb trivial
theorem Zry {t:Tapi_Tx}{l:List Tapi_Coin}{h:Int}(hl:l.length≤1000000) (ht:t.2.1.length≤1000) (hs:∀ c∈l,ScrM c.2.1.2) (hw:∀ x∈t.2.1,Zq4 x.2.2):Tot (ZeH t l h) fun _=>True:=by
 unfold ZeH;rw[ZmL,Za];refine Zg (fun _=>Zb trivial) (fun _=>?_);obtain⟨r,-,hr⟩:=Zvm t l;rw[hr,Za];refine Zg (fun _=>Zb trivial) (fun _=>(ZpH t ht h).bind fun y _=>Zg (fun _=>Zb trivial) (fun _=>?_));refine YX l (fun _=>True) (by omega) trivial ?_ ?_
 ·intro i hi _
  simp only[Zge];rw[if_pos (by omega),Zi hi];exact(Zuy (hs _ (List.getElem_mem hi)) hw).bind fun z _=>Zg (fun _=>Zb trivial) (fun _=>Zb ⟨Zp hi (by omega),trivial⟩)
 ·intro _
  simp only[Zge];rw[if_neg (by omega)];exact⟨_,rfl,trivial⟩
structure TxM (t:Tapi_Tx):Prop where
 ins:t.2.1.length=1
 wit:∀ x∈t.2.1,Zq4 x.2.2∧Byt x.1.1.l
 outs:t.2.2.1.length≤2
 scr:∀ o∈t.2.2.1,ScrM o.2
theorem Zyb {s:List Int}(h:ScrM s):∃ j,(1≤j∧j≤6)∧Zh0 s=some [[j]]:=by
 obtain⟨j,hj,rfl⟩:=h;refine⟨j,hj,?_⟩;unfold Zh0;rw[if_neg (by simp)];rfl
theorem Zuz {c:Tapi_Coin}(hc:Zkf c){a:Int}(h0:0≤a):Tot (ZfT c a) fun r=>TxM r.1:=by
 obtain⟨hb,hs⟩:=hc;obtain⟨j,hj,e⟩:=Zyb hs;unfold ZfT;rw[e,Za]
 have k1:∀ p (q:List Tapi_Output),q.length≤1→(∀ o∈q,ScrM o.2)→Tot (ZeE a c [[j]] p q) fun r=>TxM r.1:=by
  intro p q hq hq2;unfold ZeE;refine(Zhn (by rw[Za1]; omega)).bind fun y hy=>Zx (by omega) (Zb ⟨rfl,?_,?_,?_⟩)
  ·intro x hx
   obtain rfl:=List.mem_singleton.1 hx;exact⟨⟨j,hj,rfl⟩,hb⟩
  ·simp
   omega
  ·intro o ho
   rcases List.mem_append.1 ho with ho | ho
   ·exact hq2 o ho
   ·obtain rfl:=List.mem_singleton.1 ho
    exact hy
 refine Zg (fun _=>?_) (fun _=>k1 _ _ (by simp) (by simp));refine(Zhn (by rw[Za1]; omega)).bind fun y hy=>k1 _ _ (by simp) ?_
 intro o ho;obtain rfl:=List.mem_singleton.1 ho;exact hy
end Go.Lc
end
section
namespace Go.Lc
open Go.RowKit
open Go.Av
set_option linter.unusedVariables false
set_option linter.unusedSimpArgs false
set_option maxRecDepth 100000
theorem Zo0 (n:Nat):Byt (zA n).l:=by
 intro x hx
 have:x=0:=by
  simp only[zA] at hx;exact List.eq_of_mem_replicate hx
 omega
theorem Zq6 (h:Arr 8):∀ k,Byt (Zi8 h k).l
 | 0=>Zo0 32
 | k+1=>by
  intro x hx;rcases List.mem_or_eq_of_mem_set hx with hx | rfl
  ·exact Zq6 h k x hx
  ·unfold byt
   rw[Za1];omega
theorem ZvX (l:List Int):Byt (ZaB l).l:=Zq6 _ 32
theorem Zsc (t:Tapi_Tx):Byt (idS t).l:=by
 unfold idS;split
 ·exact ZvX _
 ·exact Zo0 32
theorem Zxe {p:Tapi_Params}{l:Tapi_Ledger}{a:Int}(hl:l.2.2.length≤100000) (hc:∀ c∈l.2.2,Zkf c) (h0:0≤a∧a≤255):Tot (YK p l a) fun r=>r.1.length≤3∧∀ t∈r.1,TxM t:=by
 unfold YK;refine Zx (by omega) ?_;refine ZK (I:=fun(n:Nat) (s:Int×Int×List Tapi_Tx×List Tapi_Coin)=>s.2.1+(n:Int)=3∧0≤s.2.1∧((s.2.2.1.length:Int)≤s.2.1∧∀ t∈s.2.2.1,TxM t)∧(s.2.2.2.length:Int)≤100000+2 * s.2.1∧∀ c∈s.2.2.2,Zkf c) (n:=3) ?_ ⟨by simp,by simp,⟨by simp,by simp⟩,by dsimp only; omega,hc⟩;rintro n ⟨fe,k,txs,cs⟩ ⟨h1,h2,⟨h3,h4⟩,h5,h6⟩
 dsimp only at h1 h2 h3 h4 h5 h6;simp only[Zd8];rw[Zdp h0.1];refine Zg (fun hk=>?_) (fun hk=>Tot.out (Zb ⟨by dsimp only; omega,h4⟩));have hu:0≤IntKind.u8.wrap (a.tdiv 4)∧IntKind.u8.wrap (a.tdiv 4)≤255:=by rw[Za1]; omega
 refine ZK (I:=fun(m:Nat) (s:Int)=>s+(m:Int)=(cs.length:Int)∧0≤s) (n:=cs.length) ?_ ⟨by omega,by omega⟩;rintro m i ⟨g1,g2⟩
 simp only[Zd7];generalize IntKind.u8.wrap (a.tdiv 4)=u at hu ⊢;rw[wi u (by omega),wi k (by omega),wi (u+k) (by omega),wi (u+k+i) (by omega),Zdp (n:=u+k+i) (by omega)];refine Zg (fun hi=>?_) (fun hi=>?_)
 ·have he:0≤(u+k+i) % (cs.length:Int)∧(u+k+i) % (cs.length:Int)<cs.length:=⟨Int.emod_nonneg _ (by omega),Int.emod_lt_of_pos _ (by omega)⟩
  generalize (u+k+i) % (cs.length:Int)=e at he ⊢;refine Zx (by omega) (Y7 he.1 he.2 fun j hj hjl=>ZdK hjl fun c hcj=>Zg (fun _=>?_) (fun _=>?_))
  ·exact Zb ⟨m-1,by omega,by rw[wi _ (by omega)]; omega,by rw[wi _ (by omega)]; omega⟩
  ·have hcm:=h6 c (List.mem_of_getElem? hcj)
   refine(Zuz hcm (by rw[Za1]; omega)).bind fun y hy=>?_
   have ho:=hy.outs;rw[wi (e+1) (by omega)];refine Zx (by omega) (Zx (by omega) (Zx (by omega) (Zx (by simp; omega) ?_)));rw[Zq2,Za];refine ZK (I:=fun(q:Nat) (s:Int×List Tapi_Coin)=>s.1+(q:Int)=(y.1.2.2.1.length:Int)∧0≤s.1∧(s.2.length:Int)≤100000+2 * k+s.1∧∀ c∈s.2,Zkf c) (n:=y.1.2.2.1.length) ?_ ⟨by simp,by simp,by simp; omega,?_⟩
   ·rintro q ⟨b,ds⟩ ⟨d1,d2,d3,d4⟩
    dsimp only at d1 d2 d3 d4;simp only[ZbA];refine Zg (fun hb=>?_) (fun hb=>?_)
    ·refine Y7 d2 hb fun z hz hzl=>ZdK hzl fun o hoz=>Zx (by omega) (Zb ⟨q-1,by omega,?_,?_,?_,?_⟩)
     ·dsimp only
      rw[wi _ (by omega)];omega
     ·dsimp only
      rw[wi _ (by omega)];omega
     ·dsimp only
      rw[wi (b+1) (by omega),List.length_append];simp
      omega
     ·intro c' hc'
      rcases List.mem_append.1 hc' with hc' | hc'
      ·exact d4 c' hc'
      ·obtain rfl:=List.mem_singleton.1 hc'
       exact⟨Zsc _,hy.scr o (List.mem_of_getElem? hoz)⟩
    ·refine Tot.out ?_
     unfold Zbz;refine Tot.out ?_;unfold YW;refine Zb ⟨n-1,by omega,?_,?_,⟨?_,?_⟩,?_,d4⟩
     ·dsimp only
      rw[Za1];omega
     ·dsimp only
      rw[Za1];omega
     ·dsimp only
      rw[Za1,List.length_append];simp
      omega
     ·intro t ht
      rcases List.mem_append.1 ht with ht | ht
      ·exact h4 t ht
      ·obtain rfl:=List.mem_singleton.1 ht
       exact hy
     ·dsimp only
      rw[Za1];omega
   ·intro c' hc'
    rcases List.mem_append.1 hc' with hc' | hc'
    ·exact h6 c' (List.mem_of_mem_take hc')
    ·exact h6 c' (List.mem_of_mem_drop (List.mem_of_mem_take hc'))
 ·refine Tot.out ?_
  unfold YW;refine Zb ⟨n-1,by omega,?_,?_,⟨?_,h4⟩,?_,h6⟩
  ·dsimp only
   rw[Za1];omega
  ·dsimp only
   rw[Za1];omega
  ·dsimp only
   rw[Za1];omega
  ·dsimp only
   rw[Za1];omega
structure BlkM (b:Tapi_Block):Prop where
 bits:M32 b.1.2.2.2.2.1
 len:b.2.length≤4
 one:∀ t∈b.2,t.2.1.length=1∧t.2.2.1.length≤2∧(∀ x∈t.2.1,Byt x.1.1.l)∧∀ o∈t.2.2.1,ScrM o.2
 wit:∀ i (h:i<b.2.length),0<i→∀ x∈b.2[i].2.1,Zq4 x.2.2
structure ZmV (c:Tapi_Context):Prop where
 bits:M32 c.2.2.1
 times:c.2.2.2.2.length≤100
structure Zo1 (l:Tapi_Ledger):Prop where
 len:l.2.2.length≤100000
 coins:∀ c∈l.2.2,Zkf c
theorem ZuA {p:Tapi_Params}(hp:PrmOk p){l:Tapi_Ledger}(hl:Zo1 l) (hh:0≤l.1∧l.1≤1000000){c:Tapi_Context}(hc:ZmV c){a:Int}(h0:0≤a∧a≤255):Tot (ZeF p l c a) BlkM:=by
 unfold ZeF;refine(Zxe hl.len hl.coins h0).bind fun y hy=>?_
 rw[wi (l.1+1) (by omega)];refine(Znw hp (by omega)).bind fun s hs=>(Zhn (by rw[Za1]; omega)).bind fun z hz=>?_
 have e1:Zew (l.1+1) (IntKind.i64.wrap (s+y.2)) z=some (1,[((zA 32,4294967295),IntKind.u32.wrap (l.1+1),[])],[(IntKind.i64.wrap (s+y.2),z)],0):=rfl;rw[e1,Za];refine Zx (by omega) ((Zov _ (by simp; omega)).bind fun r _=>?_);have e2:∃ q,Zfw a=some q:=⟨_,rfl⟩
 obtain⟨q,e2⟩:=e2;rw[e2,Za];refine(ZvV hp hc.bits (by have:=hc.times; omega) r q).bind fun h hb=>Zb ⟨hb,?_,?_,?_⟩
 ·simp
  omega
 ·intro t ht
  rcases List.mem_append.1 ht with ht | ht
  ·obtain rfl:=List.mem_singleton.1 ht
   refine⟨rfl,by simp,?_,?_⟩
   ·intro x hx
    obtain rfl:=List.mem_singleton.1 hx;exact Zo0 32
   ·intro o ho
    obtain rfl:=List.mem_singleton.1 ho;exact hz
  ·have:=hy.2 t ht
   exact⟨this.ins,this.outs,fun x hx=>(this.wit x hx).2,this.scr⟩
 ·intro i hi hpos x hx
  obtain⟨i,rfl⟩:∃ k,i=k+1:=⟨i-1,by omega⟩
  simp only[List.singleton_append,List.getElem_cons_succ] at hx;exact((hy.2 _ (List.getElem_mem _)).wit x hx).1
end Go.Lc
end
section
namespace Go.Lc
open Go.RowKit
open Go.Av
set_option linter.unusedVariables false
set_option linter.unusedSimpArgs false
set_option maxRecDepth 100000
theorem Zrz {p:Tapi_Params}(hp:PrmOk p){l:Tapi_Ledger}(hl:Zo1 l) (hh:0≤l.1∧l.1≤1000000){b:Tapi_Block}(hb:BlkM b):Tot (Zb5 p l b) fun r=>r.2.2=0→ZnY b∧Zo1 r.1∧r.1.1=l.1+1:=by
 unfold Zb5;refine(Zut hp l (by have:=hl.len; omega) b).bind fun e he=>Zg (fun h=>Zb fun h'=>absurd h' h) (fun h=>?_)
 have hB:=he (Decidable.byContradiction h);rw[ZeO,Za,wi (l.1+1) (by omega)];have hlen:=hb.len;have hpos:0<b.2.length:=List.length_pos_iff.2 hB.ne;refine(Znw hp (by omega)).bind fun su _=>?_
 refine ZK (I:=fun(n:Nat) (s:Int×Int×List Tapi_Coin×List Tapi_Coin)=>s.2.1+(n:Int)=(b.2.length:Int)∧0≤s.2.1∧((s.2.2.1.length:Int)≤100000+2 * s.2.1∧∀ c∈s.2.2.1,Zkf c)∧(s.2.2.2.length:Int)≤s.2.1) (n:=b.2.length) ?_ ⟨by simp,by simp,⟨by have:=hl.len; dsimp only; omega,hl.coins⟩,by simp⟩;rintro n ⟨mo,i,cs,sp⟩ ⟨h1,h2,⟨h3,h4⟩,h5⟩
 dsimp only at h1 h2 h3 h4 h5;simp only[Zgo];rw[wi (l.1+1) (by omega)];refine Zg (fun hi=>?_) (fun hi=>?_)
 ·obtain⟨k,rfl⟩:=Int.eq_ofNat_of_zero_le h2
  have hk:k<b.2.length:=by omega
  rw[Zi hk];have ht:=hb.one _ (List.getElem_mem hk);have hw:=hb.wit k hk;generalize b.2[k]=t at ht hw ⊢;obtain⟨t1,t2,t3,t4⟩:=ht
  have k2:∀ (m:Int) (ds es:List Tapi_Coin),ds.length≤100000+2 * k→(∀ c∈ds,Zkf c)→es.length≤k+1→Tot (XM t l (k:Int) m ds es) (Nx (fun(n:Nat) (s:Int×Int×List Tapi_Coin×List Tapi_Coin)=>s.2.1+(n:Int)=(b.2.length:Int)∧0≤s.2.1∧((s.2.2.1.length:Int)≤100000+2 * s.2.1∧∀ c∈s.2.2.1,Zkf c)∧(s.2.2.2.length:Int)≤s.2.1) (fun r=>r.2.2=0→ZnY b∧Zo1 r.1∧r.1.1=l.1+1) n):=by
   intro m ds es hd1 hd2 he;unfold XM;rw[wi (l.1+1) (by omega)];refine(Zur (by omega) (by omega) (fun o ho=>by have:=(t4 o ho).len; omega) _).bind fun r hr=>Zg (fun h=>Zb fun h'=>absurd h' h) (fun h=>?_)
   obtain⟨r1,r2⟩:=hr (Decidable.byContradiction h);refine Zb ⟨n-1,by omega,?_,?_,⟨?_,?_⟩,?_⟩
   ·dsimp only
    rw[wi _ (by omega)];omega
   ·dsimp only
    rw[wi _ (by omega)];omega
   ·dsimp only
    rw[wi _ (by omega)];omega
   ·intro c hc
    rcases r2 c hc with hc | ⟨hc,o,ho,e⟩
    ·exact hd2 c hc
    ·refine⟨?_,?_⟩
     ·rw[hc]
      exact Zsc t
     ·rw[e]
      exact t4 o ho
   ·dsimp only
    rw[wi _ (by omega)];omega
  refine Zg (fun hpos'=>?_) (fun _=>k2 _ _ _ (by omega) h4 (by omega));refine(Zus (by omega) (fun c hc=>by have:=(h4 c hc).2.len; omega) (by omega) _).bind fun y hy=>Zg (fun h=>Zb fun h'=>absurd h' h) (fun h=>?_)
  obtain⟨y1,y2,y3⟩:=hy (Decidable.byContradiction h);refine(Zry (by omega) (by omega) (fun c hc=>(h4 c (y2 c hc)).2) (hw (by omega))).bind fun z _=>Zg (fun h=>Zb fun h'=>absurd h' h) (fun _=>?_)
  refine ZK (I:=fun(q:Nat) (s:Int×List Tapi_Coin)=>s.1+(q:Int)=1∧0≤s.1∧(s.1=0→s.2=cs)∧(s.2.length:Int)≤100000+2 * k∧∀ c∈s.2,Zkf c) (n:=1) ?_ ⟨by simp,by simp,fun _=>rfl,by dsimp only; omega,h4⟩;rintro q ⟨a,ds⟩ ⟨d1,d2,d3,d4,d5⟩
  dsimp only at d1 d2 d3 d4 d5;simp only[Zgn];refine Zg (fun ha=>?_) (fun ha=>?_)
  ·obtain rfl:=d3 (by omega)
   refine XY d2 ha fun c hc=>?_
   refine(ZnZ ds c.1 (by omega)).bind fun f hf=>?_
   rcases hf with ⟨_,hf⟩ | ⟨j,hj,rfl,_⟩
   ·exact absurd rfl (hf c (y2 c hc))
   ·rw[Ztc hj (by omega),Za]
    refine Zb ⟨q-1,by omega,?_,?_,?_,?_,?_⟩
    ·dsimp only
     rw[wi _ (by omega)];omega
    ·dsimp only
     rw[wi _ (by omega)];omega
    ·dsimp only
     rw[wi _ (by omega)];omega
    ·dsimp only
     simp only[List.length_append,List.length_take,List.length_drop];omega
    ·intro c' hc'
     rcases List.mem_append.1 hc' with hc' | hc'
     ·exact d5 c' (List.mem_of_mem_take hc')
     ·exact d5 c' (List.mem_of_mem_drop hc')
  ·refine Tot.out ?_
   unfold Zgm;exact Zx (by omega) (k2 _ _ _ (by omega) d5 (by rw[List.length_append]; omega))
 ·refine Tot.out ?_
  unfold Zgl;rw[wi (l.1+1) (by omega)];refine ZdK hpos fun x hx=>?_
  have hx' := hb.one x (List.mem_of_getElem? hx);refine(Zli x (by omega) _).bind fun o ho=>(ZpI o (by omega)).bind fun v _=>Zg (fun _=>Zb fun h'=>absurd h' (by simp)) (fun _=>?_)
  refine(ZpI cs (by omega)).bind fun w _=>Zg (fun _=>Zb fun h'=>absurd h' (by simp)) (fun _=>Zg (fun _=>Zb fun h'=>absurd h' (by simp)) (fun h'=>Zb fun _=>⟨hB,⟨by dsimp only; omega,h4⟩,rfl⟩))
theorem Ztg {p:Tapi_Params}(hp:PrmOk p) (c:Tapi_Context):Tot (ZfR p c) fun _=>True:=by
 unfold ZfR;exact(Zef hp).bind fun _ _=>Zb trivial
theorem Znz {p:Tapi_Params}(hp:PrmOk p){c:Tapi_Context}(hc:ZmV c){h:Tapi_Header}(hb:M32 h.2.2.2.2.1):Tot (Zbq p c h) fun r=>ZmV r.1:=by
 unfold Zbq;have z0:ZmV ((0,zA 32,0,0,([]:List Int)):Tapi_Context):=⟨⟨by decide,by decide⟩,by simp⟩
 have hw:=hp.win;have ht:=hc.times;refine(Ztg hp c).bind fun y _=>Zg (fun _=>Zb z0) (fun _=>Zg (fun _=>Zb z0) (fun _=>?_))
 rw[ZeO,Za]
 have k1:∀ x,Tot (Zcj c h (Zmb h) x) fun r=>ZmV r.1:=by
  intro x;unfold Zcj;refine Zx (by omega) (Zx (by omega) (Zg (fun hlt=>?_) (fun hlt=>Zb ⟨hb,by simp; omega⟩)));exact Zx (by simp; omega) (Zb ⟨hb,by simp; omega⟩)
 exact Zx (by omega) (Zg (fun _=>k1 _) (fun _=>k1 _))
theorem ZrA {p:Tapi_Params}(hp:PrmOk p){c:Tapi_Context}(hc:ZmV c){h:Tapi_Header}(hb:M32 h.2.2.2.2.1) (n:Int):Tot (Zcc p c h n) fun _=>True:=by
 unfold Zcc;refine(Znz hp hc hb).bind fun y _=>Zg (fun _=>Zb trivial) (fun _=>Zg (fun _=>Zb trivial) (fun _=>Zg (fun _=>Zb trivial) (fun _=>?_)))
 refine(Zow hp hc.bits).bind fun z _=>Zg (fun _=>Zb trivial) (fun _=>Zg (fun _=>Zb trivial) (fun _=>?_))
 refine(ZpF _ hb).bind fun w _=>Zg (fun _=>Zb trivial) (fun _=>?_)
 refine(Zox _ (by have:=hc.times; omega)).bind fun m _=>Zg (fun _=>Zb trivial) (fun _=>Zg (fun _=>Zb trivial) (fun _=>?_))
 refine YX ([]:List Nat) (fun _=>True) (by simp) trivial (fun i hi=>absurd hi (by simp)) fun _=>?_
 simp only[ZhP];rw[hp.cps,if_neg (by simp)];exact⟨_,rfl,trivial⟩
structure Zq7 (k:Nat) (w:Tlightclientmade_World):Prop where
 prm:PrmOk w.1
 blk:∀ b∈w.2.1,ZnY b∧BlkM b
 led:∀ l∈w.2.2.1,Zo1 l∧0≤l.1∧l.1≤k
 ctx:∀ c∈w.2.2.2.1,ZmV c
 lens:w.2.2.1.length=w.2.1.length+1∧w.2.2.2.1.length=w.2.1.length+1∧w.2.2.2.2.length=w.2.1.length∧w.2.1.length≤k
theorem ZvY {k:Nat}{w:Tlightclientmade_World}(h:Zq7 k w){l:List Int}(hl:∀ a∈l,0≤a∧a≤255) (hk:k+l.length≤1000000):Tot (ZfV w l) fun r=>Zq7 (k+l.length) r∧r.1=w.1:=by
 obtain⟨hp,hb,hle,hc,hn1,hn2,hn3,hn4⟩:=h;unfold ZfV;refine Zx (by omega) (Zx (by omega) (Zx (by omega) (Zx (by omega) ?_)));refine ZK (I:=fun(n:Nat) (s:Int×List Tapi_Block×List Tapi_Ledger×List Tapi_Context×List (List Tapi_Coin))=>s.1+(n:Int)=(l.length:Int)∧0≤s.1∧Zq7 (k+s.1.toNat) (w.1,s.2.1,s.2.2.1,s.2.2.2.1,s.2.2.2.2)) (n:=l.length) ?_ ⟨by simp,by simp,⟨hp,hb,hle,hc,hn1,hn2,hn3,hn4⟩⟩;rintro n ⟨i,bs,ls,cs,us⟩ ⟨h1,h2,⟨g1,g2,g3,g4,g5,g6,g7,g8⟩⟩
 dsimp only at h1 h2 g1 g2 g3 g4 g5 g6 g7 g8;simp only[ZiW];refine Zg (fun hi=>?_) (fun hi=>?_)
 ·refine XY h2 hi fun a ha=>?_
  rw[wi ((ls.length:Int)-1) (by omega),wi ((cs.length:Int)-1) (by omega)];refine Y7 (by omega) (by omega) fun j hj hjl=>ZdK hjl fun x hx=>Y7 (by omega) (by omega) fun q hq hql=>ZdK hql fun c hcq=>?_
  obtain⟨x1,x2,x3⟩:=g3 x (List.mem_of_getElem? hx);have hcm:=g4 c (List.mem_of_getElem? hcq);refine(ZuA hp x1 ⟨x2,by omega⟩ hcm (hl a ha)).bind fun b hbm=>(Zrz hp x1 ⟨x2,by omega⟩ hbm).bind fun r hr=>?_
  have h5:Tot (if ¬ (r.2.2=0) then some (false) else(Zcc w.1 c b.1 1073741824).bind fun y64=>some (!(decide (y64=0)))) fun _=>True :=
   Zg (fun _=>Zb trivial) (fun _=>(ZrA hp hcm hbm.bits _).bind fun _ _=>Zb trivial)
  refine h5.bind fun z _=>Zg (fun _=>?_) (fun hz=>?_)
  ·refine Zb ⟨n-1,by omega,?_,?_,?_⟩
   ·dsimp only
    rw[wi _ (by omega)];omega
   ·dsimp only
    rw[wi _ (by omega)];omega
   ·dsimp only
    rw[wi _ (by omega),show(i+1).toNat=i.toNat+1 by omega];exact⟨g1,g2,fun l' hl'=>⟨(g3 l' hl').1,(g3 l' hl').2.1,by have:=(g3 l' hl').2.2; omega⟩,g4,g5,g6,g7,by dsimp only; omega⟩
  ·have h0:r.2.2=0:=by
    apply Decidable.byContradiction
    intro c';exact hz (.inl c')
   obtain⟨r1,r2,r3⟩:=hr h0;refine(Znz hp hcm hbm.bits).bind fun d hd=>Zx (by omega) (Zx (by omega) (Zx (by omega) (Zx (by omega) (Zb ⟨n-1,by omega,?_,?_,?_⟩))))
   ·dsimp only
    rw[wi _ (by omega)];omega
   ·dsimp only
    rw[wi _ (by omega)];omega
   ·dsimp only
    rw[wi _ (by omega),show(i+1).toNat=i.toNat+1 by omega];refine⟨g1,?_,?_,?_,?_,?_,?_,?_⟩
    ·intro b' hb'
     rcases List.mem_append.1 hb' with hb' | hb'
     ·exact g2 b' hb'
     ·obtain rfl:=List.mem_singleton.1 hb'
      exact⟨r1,hbm⟩
    ·intro l' hl'
     rcases List.mem_append.1 hl' with hl' | hl'
     ·exact⟨(g3 l' hl').1,(g3 l' hl').2.1,by have:=(g3 l' hl').2.2; omega⟩
     ·obtain rfl:=List.mem_singleton.1 hl'
      exact⟨r2,by omega,by omega⟩
    ·intro c' hc'
     rcases List.mem_append.1 hc' with hc' | hc'
     ·exact g4 c' hc'
     ·obtain rfl:=List.mem_singleton.1 hc'
      exact hd
    ·simp[g5]
    ·simp[g6]
    ·simp[g7]
    ·simp
     omega
 ·refine Tot.out (Zb ⟨?_,rfl⟩)
  have e:i.toNat=l.length:=by omega
  rw[e] at g3 g8;exact⟨g1,g2,g3,g4,g5,g6,g7,g8⟩
end Go.Lc
end
