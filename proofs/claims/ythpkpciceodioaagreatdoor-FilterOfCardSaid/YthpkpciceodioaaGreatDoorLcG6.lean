import Derived.Test.YthpkpciceodioaaGreatDoorLcG5
import Derived.Test.YthpkpciceodioaaGreatDoorLcG1
import Derived.Test.YthpkpciceodioaaGreatDoorLcG3
import Derived.Test.YthpkpciceodioaaGreatDoorLcG4
import Derived.Test.YthpkpciceodioaaGreatDoorAvP3
section
namespace Go.Lc
open Go.RowKit
open Go.Av
set_option linter.unusedVariables false
set_option linter.unusedSimpArgs false
set_option maxRecDepth 100000
theorem Ziu {α β ρ:Type} {step:Int×List β→Option ((Int×List β) ⊕ ρ)} (l:List α) (f:α→List β) (acc:List β) {x:Option ρ}
  (h:∀ i (hi:i<l.length),step ((i:Int),acc++(l.take i).flatMap f)=some (.inl (((i+1:Nat):Int),acc++(l.take i).flatMap f++f l[i])))
  (he:step ((l.length:Int),acc++l.flatMap f)=x.map .inr):Zf step (0,acc)=x:=by
 have key:=Yg (step:=step) (fun i=>((i:Int),acc++(l.take i).flatMap f)) l.length (x:=x) ?_ ?_
 ·simpa using key
 ·intro i hi
  rw [h i hi,Zbk f hi,List.append_assoc]
 ·simpa using he
def Zd9 (h:Tapi_Header):List Int:=YX (IntKind.u64.wrap h.1) 4++h.2.1.l++h.2.2.1.l++YX (IntKind.u64.wrap h.2.2.2.1) 4++YX (IntKind.u64.wrap h.2.2.2.2.1) 4++YX (IntKind.u64.wrap h.2.2.2.2.2) 4
theorem Zge (h:Tapi_Header):(Zd9 h).length=80:=by simp [Zd9,h.2.1.hl,h.2.2.1.hl]
theorem Zlp (h:Tapi_Header):XI h=some (Zd9 h):=by
 unfold XI;have l1:=h.2.1.hl;have l2:=h.2.2.1.hl;rw [ZfL (by simp),Zb,List.nil_append,ZlF (by simp),Zb,ZlF (by simp [l1]),Zb,ZfL (by simp [l1,l2]),Zb,ZfL (by simp [l1,l2]),Zb,ZfL (by simp [l1,l2]),Zb];rfl
theorem Zkt (h:Tapi_Header):XJ h=some (Zd9 h):=by
 unfold XJ;have l1:=h.2.1.hl;have l2:=h.2.2.1.hl;rw [Zfs (by simp),Zb,List.nil_append,ZkL (by simp),Zb,ZkL (by simp [l1]),Zb]
 have h0:Y5 h (0,YX (IntKind.u64.wrap h.1) 4++h.2.1.l++h.2.2.1.l)=some (.inl (1,YX (IntKind.u64.wrap h.1) 4++h.2.1.l++h.2.2.1.l++YX (IntKind.u64.wrap h.2.2.2.1) 4)):=by
  simp only [Y5];rw [if_pos (by omega),show (0:Int)=((0:Nat):Int) from rfl,XK (by omega)];simp only [List.getElem?_cons_zero,Zb];rw [Zfs (by simp [l1,l2]),Zb];rfl
 have h1:Y5 h (1,YX (IntKind.u64.wrap h.1) 4++h.2.1.l++h.2.2.1.l++YX (IntKind.u64.wrap h.2.2.2.1) 4)=some (.inl (2,YX (IntKind.u64.wrap h.1) 4++h.2.1.l++h.2.2.1.l++YX (IntKind.u64.wrap h.2.2.2.1) 4++YX (IntKind.u64.wrap h.2.2.2.2.1) 4)):=by
  simp only [Y5];rw [if_pos (by omega),show (1:Int)=((1:Nat):Int) from rfl,XK (by omega)];simp only [List.getElem?_cons_zero,List.getElem?_cons_succ,Zb];rw [Zfs (by simp [l1,l2]),Zb];rfl
 have h2:Y5 h (2,YX (IntKind.u64.wrap h.1) 4++h.2.1.l++h.2.2.1.l++YX (IntKind.u64.wrap h.2.2.2.1) 4++YX (IntKind.u64.wrap h.2.2.2.2.1) 4)=some (.inl (3,Zd9 h)):=by
  simp only [Y5];rw [if_pos (by omega),show (2:Int)=((2:Nat):Int) from rfl,XK (by omega)];simp only [List.getElem?_cons_zero,List.getElem?_cons_succ,Zb];rw [Zfs (by simp [l1,l2]),Zb];rfl
 rw [ZM h0,ZM h1,ZM h2];exact Yt (by simp [Y5,ZcD])
noncomputable def ZpF (h:Tapi_Header):Arr 32:=Zd7 (Zd7 (Zd9 h)).l
theorem ZnM (h:Tapi_Header):ZbJ h=some (ZpF h):=by
 unfold ZbJ;rw [Zlp,Zb,ZuG (by rw [Zge]; omega)];rfl
theorem Zmx (h:Tapi_Header):ZbK h=some (ZpF h):=by
 unfold ZbK;rw [Zkt,Zb,Zox (by rw [Zge]; omega)];rfl
noncomputable def ZpG (a:Arr 32):Arr 2:=⟨[wdv (a.l.take 8),wdv ((a.l.drop 8).take 8)],rfl⟩
theorem Ztw (a:Arr 32):Zf6 a=some (ZpG a):=by
 unfold Zf6;rw [Zfv _ (by simp),Zb,Zfv _ (by simp)];rfl
theorem Zsd (a:Arr 32):Zet a=some (ZpG a):=by
 unfold Zet;rw [ZhX,ZhX,Zfv _ (by simp),Zb,Zfv _ (by simp)];rfl
theorem ZqR (t:Tapi_Tx) (w:Bool):Zel t w=some (if Zap t=true then (Zad t w,0) else ([],4)):=by
 unfold Zel;rw [Zs1,Zb];by_cases h:Zap t=true
 ·rw [if_neg (by simp [h]),if_pos h,Zmm (Znw h)]
  rfl
 ·rw [if_pos h,if_neg h]
theorem Ztx (t:Tapi_Tx) (w:Bool):Zcc t w=some (if Zap t=true then (Zad t w,0) else ([],4)):=by
 unfold Zcc;rw [ZhK,Zb];by_cases h:Zap t=true
 ·rw [if_neg (by simp [h]),if_pos h,Zlj (Znw h)]
  rfl
 ·rw [if_pos h,if_neg h]
def ZjO (b:Tapi_Block):List Int:=Zd9 b.1++ZaH (b.2.length:Int)++b.2.flatMap fun t=>Zad t true
theorem Zhf {t:Tapi_Tx} (h:Zap t=true):(Zad t true).length≤20000:=by
 classical
 unfold Zap at h;simp only [decide_eq_true_eq] at h;exact h.2
theorem ZdI {α β:Type} (f:α→List β) (c:Nat):∀ (l:List α),(∀ a∈l,(f a).length≤c)→(l.flatMap f).length≤c * l.length
 | [],_=>by simp
 | a :: l,h=>by
  have h1:=h a (by simp);have h2:=ZdI f c l fun x hx=>h x (by simp [hx])
  rw [List.flatMap_cons,List.length_append,List.length_cons,Nat.mul_succ];omega
noncomputable def Zgu (b:Tapi_Block):List Int×Int:=by
 classical exact if 256<b.2.length then ([],4) else if ∃ t∈b.2,¬ Zap t=true then ([],4) else if 100000<(ZjO b).length then ([],4) else (ZjO b,0)
theorem Zty {b:Tapi_Block} (h:b.2.length≤256) (hf:∀ t∈b.2,Zap t=true) (i:Nat):(Zd9 b.1++ZaH (b.2.length:Int)++(b.2.take i).flatMap fun t=>Zad t true).length≤10000000:=by
 have h1:=ZdI (fun t=>Zad t true) 20000 (b.2.take i) fun t ht=>Zhf (hf t (List.mem_of_mem_take ht))
 have h2:=Zbl (b.2.length:Int);have h3:20000 * (b.2.take i).length≤20000 * 256:=Nat.mul_le_mul_left _ (by rw [List.length_take]; omega);rw [List.length_append,List.length_append,Zge];omega
theorem ZqS (b:Tapi_Block):Zcb b=some (Zgu b):=by
 classical
 unfold Zcb Zgu;by_cases h:256<b.2.length
 ·rw [if_pos (by omega),if_pos h]
 rw [if_neg (by omega),if_neg h,Zlp,Zb,ZdH (by omega),Zip (by omega) (by rw [Zge]; omega),Zb]
 have hpre:∀ i,(∀ t∈b.2.take i,Zap t=true)→(Zd9 b.1++ZaH (b.2.length:Int)++(b.2.take i).flatMap fun t=>Zad t true).length≤10000000:=by
  intro i hi;have h1:=ZdI (fun t=>Zad t true) 20000 (b.2.take i) fun t ht=>Zhf (hi t ht)
  have h2:=Zbl (b.2.length:Int);have h3:20000 * (b.2.take i).length≤20000 * 256:=Nat.mul_le_mul_left _ (by rw [List.length_take]; omega);rw [List.length_append,List.length_append,Zge];omega
 have key:=ZrI (step:=Za4 b) (fun i=>((i:Int),Zd9 b.1++ZaH (b.2.length:Int)++(b.2.take i).flatMap fun t=>Zad t true)) b.2.length (fun i=>∃ h:i<b.2.length,¬ Zap b.2[i]=true) (some ([],4)) (some (if 100000<(ZjO b).length then ([],4) else (ZjO b,0))) ?_ ?_ ?_ rfl
 ·have e:((∃ i,i<b.2.length∧∃ h:i<b.2.length,¬ Zap b.2[i]=true)↔∃ t∈b.2,¬ Zap t=true):=by
   constructor
   ·rintro ⟨i,_,hi,h⟩
    exact ⟨_,List.getElem_mem hi,h⟩
   ·rintro ⟨t,ht,h⟩
    obtain ⟨i,hi,rfl⟩:=List.getElem_of_mem ht;exact ⟨i,hi,hi,h⟩
  simp only [List.take_zero,List.flatMap_nil,List.append_nil] at key;rw [show ((0:Nat):Int)=0 from rfl] at key;rw [key];by_cases hb:∃ t∈b.2,¬ Zap t=true
  ·rw [if_pos (e.2 hb),if_pos hb]
  ·rw [if_neg (fun x=>hb (e.1 x)),if_neg hb]
 ·intro i hi hp hn
  have hf:Zap b.2[i]=true:=Decidable.byContradiction fun c=>hn ⟨hi,c⟩
  have hl:=hpre i fun t ht=>by
   obtain ⟨j,hj,rfl⟩:=List.getElem_of_mem ht;rw [List.length_take] at hj;rw [List.getElem_take];exact Decidable.byContradiction fun c=>hp j (by omega) ⟨by omega,c⟩
  have hb:=Zhf hf;simp only [Za4];rw [if_pos (by omega),Zt hi,ZqR,Zb,if_pos hf];dsimp only;rw [if_neg (by simp),Zg (by omega),Yr hi (by omega),Zbk _ hi,List.append_assoc _ _ (Zad _ _)]
 ·rintro i hi hp ⟨_,hf⟩
  simp only [Za4];rw [if_pos (by omega),Zt hi,ZqR,Zb,if_neg hf];rfl
 ·intro _
  simp only [Za4,List.take_length];rw [if_neg (by omega)];unfold Zfk;rw [show (Zd9 b.1++ZaH (b.2.length:Int)++b.2.flatMap fun t=>Zad t true)=ZjO b from rfl];by_cases hc:100000<(ZjO b).length
  ·rw [if_pos (by omega),if_pos hc]
  ·rw [if_neg (by omega),if_neg hc]
theorem ZpH {b:Tapi_Block} (h:b.2.length≤256) (hf:∀ t∈b.2,Zap t=true):Zcd b=some (ZjO b):=by
 unfold Zcd;rw [Zkt,Zb,ZdH (by omega),ZhH (by omega) (by rw [Zge]; omega),Zb];refine Ziu b.2 (fun t=>Zad t true) _ ?_ ?_
 ·intro i hi
  have hl:=Zty h hf i;have hfi:=hf _ (List.getElem_mem hi);have hb:=Zhf hfi;simp only [Zda];rw [if_pos (by omega),Zt hi,Ztx,Zb,if_pos hfi];dsimp only;rw [Zg (by omega),Yr hi (by omega)]
 ·simp only [Zda]
  rw [if_neg (by omega)];rfl
noncomputable def Zlq (b:Tapi_Block):Bool:=by classical exact decide ((Zgu b).2=0)
theorem Zse (b:Tapi_Block):ZdB b=some (Zlq b):=by
 classical
 unfold ZdB Zlq Zgu;by_cases h:256<b.2.length
 ·rw [if_pos (by omega),if_pos h]
  rfl
 rw [if_neg (by omega),if_neg h];by_cases hb:∃ t∈b.2,¬ Zap t=true
 ·rw [if_pos hb]
  have key:=Zdd (step:=XE b) (fun i=>(i:Int)) b.2 (fun t=>¬ Zap t=true) (some false) (ZcN b) ?_ ?_ ?_ (s:=((0:Nat):Int)) rfl
  ·rw [show ((0:Nat):Int)=0 from rfl,if_pos hb] at key
   rw [key];rfl
  ·intro i hi hn
   simp only [XE];rw [if_pos (by omega),Zt hi,ZhK,Zb,if_neg hn,Yr hi (by omega)]
  ·intro i hi hn
   simp only [XE];rw [if_pos (by omega),Zt hi,ZhK,Zb,if_pos hn];rfl
  ·simp only [XE]
   rw [if_neg (by omega)]
 ·rw [if_neg hb]
  have hf:∀ t∈b.2,Zap t=true:=fun t ht=>Decidable.byContradiction fun c=>hb ⟨t,ht,c⟩
  have key:=Zdd (step:=XE b) (fun i=>(i:Int)) b.2 (fun t=>¬ Zap t=true) (some false) (ZcN b) ?_ ?_ ?_ (s:=((0:Nat):Int)) rfl
  ·rw [show ((0:Nat):Int)=0 from rfl,if_neg hb] at key
   rw [key];unfold ZcN;rw [ZpH (by omega) hf,Zb];by_cases hc:100000<(ZjO b).length
   ·rw [if_pos hc]
    simp
    omega
   ·rw [if_neg hc]
    simp
    omega
  ·intro i hi hn
   simp only [XE];rw [if_pos (by omega),Zt hi,ZhK,Zb,if_neg hn,Yr hi (by omega)]
  ·intro i hi hn
   simp only [XE];rw [if_pos (by omega),Zt hi,ZhK,Zb,if_pos hn];rfl
  ·simp only [XE]
   rw [if_neg (by omega)]
theorem ZqT (b:Tapi_Block) (h:¬ (Zgu b).2=0):Zgu b=([],4):=by
 unfold Zgu at h ⊢;split
 ·rfl
 ·rename_i c1
  split
  ·rfl
  ·rename_i c2
   split
   ·rfl
   ·rename_i c3
    rw [if_neg c1,if_neg c2,if_neg c3] at h;exact absurd rfl h
def Zgf (o:Tapi_Output):List (List Int):=if 0<o.2.length then [o.2] else []
def inE (x:Tapi_Input):List (List Int):=[ZgH x.1]
def txE (t:Tapi_Tx):List (List Int):=t.2.2.1.flatMap Zgf++if cbS t=true then [] else t.2.1.flatMap inE
def elS (b:Tapi_Block):List (List Int):=b.2.flatMap txE
def Ziv (b:Tapi_Block):Prop:=b.2.length≤256∧∀ t∈b.2,t.2.1.length≤100∧t.2.2.1.length≤100∧∀ o∈t.2.2.1,o.2.length≤100000
theorem Zi8 (o:Tapi_Output):(Zgf o).length≤1:=by unfold Zgf; split <;> simp
theorem Ztz {t:Tapi_Tx} (h:t.2.1.length≤100∧t.2.2.1.length≤100):(txE t).length≤200:=by
 have h1:=ZdI Zgf 1 t.2.2.1 fun o _=>Zi8 o
 have h2:=ZdI inE 1 t.2.1 fun o _=>by simp [inE]
 unfold txE;split <;> simp only [List.length_append,List.length_nil] <;> omega
theorem Zkf {b:Tapi_Block} (h:Ziv b) (i:Nat):((b.2.take i).flatMap txE).length≤51200:=by
 have h1:=ZdI txE 200 (b.2.take i) fun t ht=>Ztz ⟨(h.2 t (List.mem_of_mem_take ht)).1,(h.2 t (List.mem_of_mem_take ht)).2.1⟩
 have h2:=h.1;rw [List.length_take] at h1;omega
theorem ZnN {t:Tapi_Tx} (h:t.2.1.length≤100∧t.2.2.1.length≤100∧∀ o∈t.2.2.1,o.2.length≤100000) (acc:List (List Int)) (ha:acc.length≤1000000) (p:Int)
  {step:Int×List (List Int)→Option ((Int×List (List Int)) ⊕ ((Int×List (List Int)) ⊕ List (List Int)))} {K2:List (List Int)→Option ((Int×List (List Int)) ⊕ List (List Int))} {Cl:List Int→Option (List Int)}
  (hs:∀ p108 p109,step (p108,p109)=if p108<(t.2.2.1.length:Int) then (idx (t.2.2.1) (p108)).bind fun x131=>(if 0<(x131.2.length:Int) then (Cl x131.2).bind fun y135=>(chk (p109.length+1≤5864062014805)).bind fun _=>some (.inl (IntKind.i64.wrap (p108+1),p109++[y135])) else some (.inl (IntKind.i64.wrap (p108+1),p109))) else (K2 p109).map Sum.inr)
  (hC:∀ s:List Int,s.length≤100000→Cl s=some s):Zf step (0,acc)=K2 (acc++t.2.2.1.flatMap Zgf):=by
 refine Ziu t.2.2.1 Zgf acc ?_ ?_
 ·intro i hi
  have hl:=ZdI Zgf 1 (t.2.2.1.take i) fun o _=>Zi8 o
  rw [List.length_take] at hl;rw [hs,if_pos (by omega),Zt hi,Yr hi (by omega)];unfold Zgf;by_cases h0:0<t.2.2.1[i].2.length
  ·rw [if_pos (by omega),if_pos h0,hC _ (h.2.2 _ (List.getElem_mem hi)),Zb]
   refine Zg ?_;have:(acc++(t.2.2.1.take i).flatMap Zgf).length≤1000100:=by rw [List.length_append]; omega
   unfold Zgf at this;omega
  ·rw [if_neg (by omega),if_neg h0,List.append_nil]
 ·rw [hs,if_neg (by omega)]
theorem ZoD {t:Tapi_Tx} (h:t.2.1.length≤100∧t.2.2.1.length≤100∧∀ o∈t.2.2.1,o.2.length≤100000) (acc:List (List Int)) (ha:acc.length≤1000000)
  {step:Int×List (List Int)→Option ((Int×List (List Int)) ⊕ ((Int×List (List Int)) ⊕ List (List Int)))} {K3:List (List Int)→Option ((Int×List (List Int)) ⊕ List (List Int))} {Pt:Tapi_OutPoint→Option (List Int)}
  (hs:∀ p123 p124,step (p123,p124)=if p123<(t.2.1.length:Int) then (idx (t.2.1) (p123)).bind fun x128=>(Pt x128.1).bind fun y129=>(chk (p124.length+1≤5864062014805)).bind fun _=>some (.inl (IntKind.i64.wrap (p123+1),p124++[y129])) else (K3 p124).map Sum.inr)
  (hP:∀ o,Pt o=some (ZgH o)):Zf step (0,acc)=K3 (acc++t.2.1.flatMap inE):=by
 refine Ziu t.2.1 inE acc ?_ ?_
 ·intro i hi
  have hl:=ZdI inE 1 (t.2.1.take i) fun o _=>by simp [inE]
  rw [List.length_take] at hl;have:(acc++(t.2.1.take i).flatMap inE).length≤1000100:=by rw [List.length_append]; omega
  rw [hs,if_pos (by omega),Zt hi,Yr hi (by omega),hP,Zb,Zg (by omega)];rfl
 ·rw [hs,if_neg (by omega)]
theorem Zku {b:Tapi_Block} (h:Ziv b):Zax b=some (elS b):=by
 unfold Zax;refine Ziu b.2 txE [] ?_ ?_
 ·intro i hi
  have hp:=Zkf h i;have hb:=h.1;have ht:=h.2 _ (List.getElem_mem hi);simp only [Zb4,List.nil_append];rw [if_pos (by omega),Zt hi];generalize hacc:(b.2.take i).flatMap txE=acc at hp ⊢;refine (ZnN ht acc (by omega) (i:Int) (K2:=Zb3 b.2[i] (i:Int)) (Cl:=YG) (fun p q=>rfl) (fun s hs=>?_)).trans ?_
  ·unfold YG
   exact Zg (by omega)
  ·have hl:=ZdI Zgf 1 b.2[i].2.2.1 fun o _=>Zi8 o
   unfold Zb3;rw [Zsl,Zb,Yr hi (by omega),txE];by_cases hc:cbS b.2[i]=true
   ·rw [if_pos hc,if_pos hc,List.append_nil]
   ·rw [if_neg hc,if_neg hc]
    refine (ZoD ht _ (by rw [List.length_append]; omega) (K3:=Zb2 (i:Int)) (Pt:=ZcS) (fun p q=>rfl) Znr).trans ?_;unfold Zb2;rw [Yr hi (by omega),List.append_assoc]
 ·simp only [Zb4,List.nil_append]
  rw [if_neg (by omega)];rfl
theorem ZjP {b:Tapi_Block} (h:Ziv b):ZaG b=some (elS b):=by
 unfold ZaG;refine Ziu b.2 txE [] ?_ ?_
 ·intro i hi
  have hp:=Zkf h i;have hb:=h.1;have ht:=h.2 _ (List.getElem_mem hi);simp only [Zct,List.nil_append];rw [if_pos (by omega),Zt hi];generalize hacc:(b.2.take i).flatMap txE=acc at hp ⊢;refine (ZnN ht acc (by omega) (i:Int) (K2:=Zcs b.2[i] (i:Int)) (Cl:=fun s=>ZbH [s]) (fun p q=>rfl) (fun s hs=>ZnE s (by omega))).trans ?_
  ·have hl:=ZdI Zgf 1 b.2[i].2.2.1 fun o _=>Zi8 o
   unfold Zcs;rw [ZuD,Zb,Yr hi (by omega),txE];by_cases hc:cbS b.2[i]=true
   ·rw [if_pos hc,if_pos hc,List.append_nil]
   ·rw [if_neg hc,if_neg hc]
    refine (ZoD ht _ (by rw [List.length_append]; omega) (K3:=Zcr (i:Int)) (Pt:=Zbf) (fun p q=>rfl) Zmi).trans ?_;unfold Zcr;rw [Yr hi (by omega),List.append_assoc]
 ·simp only [Zct,List.nil_append]
  rw [if_neg (by omega)];rfl
def Zsf (b:Tapi_Block):Prop:=∀ t∈b.2,(∀ x∈t.2.1,Byt x.1.1.l)∧∀ o∈t.2.2.1,Byt o.2
theorem Zmy {b:Tapi_Block} (h:Ziv b) (hb:Zsf b):Zhe (elS b):=by
 intro x hx;obtain ⟨t,ht,hx⟩:=List.mem_flatMap.1 hx;obtain ⟨h1,h2⟩:=hb t ht;have h3:=(h.2 t ht).2.2;rw [txE,List.mem_append] at hx;rcases hx with hx | hx
 ·obtain ⟨o,ho,hx⟩:=List.mem_flatMap.1 hx
  unfold Zgf at hx;split at hx
  ·obtain rfl:=List.mem_singleton.1 hx
   exact ⟨h2 o ho,h3 o ho⟩
  ·cases hx
 ·split at hx
  ·cases hx
  ·obtain ⟨y,hy,hx⟩:=List.mem_flatMap.1 hx
   obtain rfl:=List.mem_singleton.1 hx;exact ⟨Ztv (h1 y hy) (Zsc _ _),by simp⟩
theorem Zwq {b:Tapi_Block} (h:Ziv b) (hb:Zsf b):∃ r,Zep b=some r∧Zfq b=some r∧((Zgu b).2=0→BR (ZpG (ZpF b.1)) (elS b) 10 1533 r)∧(¬ (Zgu b).2=0→r=((0,[]),4)):=by
 have hl:(elS b).length≤100000:=by have:=Zkf h b.2.length; rw [List.take_length] at this; unfold elS; omega
 obtain ⟨r,r1,r2,r3⟩:=ZpE (ZpG (ZpF b.1)) (elS b) 10 1533 (Zmy h hb) hl;unfold Zep Zfq;rw [ZqS,Zb,Zse,Zb];by_cases he:(Zgu b).2=0
 ·refine ⟨r,?_,?_,fun _=>r3,fun c=>absurd he c⟩
  ·rw [if_neg (by simp [he]),ZnM,Zb,Ztw,Zb,Zku h,Zb,r1]
   rfl
  ·rw [if_neg (by simp [Zlq,he]),Zmx,Zb,Zsd,Zb,ZjP h,Zb,r2]
   rfl
 ·refine ⟨((0,[]),4),?_,?_,fun c=>absurd c he,fun _=>rfl⟩
  ·rw [if_pos he,ZqT b he]
  ·rw [if_pos (by simp [Zlq,he])]
theorem ZpI {l:List (List Int)} (h:Zhe l) (hl:l.length≤100000):Za6 l l=some true:=by
 unfold Za6;rw [if_neg (by simp)];have key:=Yg (step:=ZaS l l) (fun i=>(i:Int)) l.length (x:=some true) ?_ ?_
 ·exact key
 ·intro i hi
  have hb:=(h _ (List.getElem_mem hi)).1;simp only [ZaS];rw [if_pos (by omega),Zt hi,Zt hi,ZnL hb hb,Zb,if_neg (by simp),Yr hi (by omega)]
 ·simp only [ZaS]
  rw [if_neg (by omega)];rfl
theorem ZtA {t:Tapi_Tx} (hl1:t.2.1.length≤9223372036854775807) (hl2:t.2.2.1.length≤9223372036854775807) (hw:∀ x∈t.2.1,x.2.2.length≤9223372036854775807):∃ b,Zf7 t=some b∧(b=true→t.2.1.length≤70∧t.2.2.1.length≤70∧∀ o∈t.2.2.1,o.2.length≤600):=by
 unfold Zf7;by_cases h:70<(t.2.1.length:Int)∨70<(t.2.2.1.length:Int)
 ·rw [if_pos h]
  exact ⟨false,rfl,by simp⟩
 rw [if_neg h]
 have hk1:∃ b,Zgr t=some b∧(b=true→∀ o∈t.2.2.1,o.2.length≤600):=by
  classical
  have key:=Zdd (step:=ZdC t) (fun i=>(i:Int)) t.2.2.1 (fun o=>600<o.2.length) (some false) (some true) ?_ ?_ ?_ (s:=((0:Nat):Int)) rfl
  ·unfold Zgr
   rw [show (0:Int)=((0:Nat):Int) from rfl,key];by_cases hx:∃ a∈t.2.2.1,600<a.2.length
   ·rw [if_pos hx]
    exact ⟨false,rfl,by simp⟩
   ·rw [if_neg hx]
    exact ⟨true,rfl,fun _ o ho=>Decidable.byContradiction fun c=>hx ⟨o,ho,by omega⟩⟩
  ·intro i hi hn
   simp only [ZdC];rw [if_pos (by omega),Zt hi,if_neg (by omega),Yr hi (by omega)]
  ·intro i hi hn
   simp only [ZdC];rw [if_pos (by omega),Zt hi,if_pos (by omega)];rfl
  ·simp only [ZdC]
   rw [if_neg (by omega)];rfl
 obtain ⟨b,hb,hb2⟩:=hk1;refine Xg (step:=ZeO t) (fun q s=>∃ i:Nat,s=(i:Int)∧i≤t.2.1.length∧q=t.2.1.length-i) _ ?_ _ _ ⟨0,rfl,by omega,rfl⟩;rintro q _ ⟨i,rfl,hi,rfl⟩
 by_cases hlt:i<t.2.1.length
 ·simp only [ZeO]
  rw [if_pos (by omega),Zt hlt];obtain ⟨c,hc,-⟩:=Ztt (t.2.1[i]).2.2 40 600 (hw _ (List.getElem_mem hlt));rw [hc,Zb];cases c with
  | false=>exact .inr ⟨false,by simp,by simp⟩
  | true =>
   refine .inl ⟨t.2.1.length-(i+1),((i+1:Nat):Int),by omega,?_,i+1,rfl,by omega,rfl⟩;rw [if_neg (by simp),Yr hlt (by omega)]
 ·simp only [ZeO]
  rw [if_neg (by omega),hb];exact .inr ⟨b,rfl,fun h1=>⟨by omega,by omega,hb2 h1⟩⟩
def ZlN (b:Tapi_Block):Prop:=b.2.length≤9223372036854775807∧∀ t∈b.2,t.2.1.length≤9223372036854775807∧t.2.2.1.length≤9223372036854775807∧(∀ x∈t.2.1,x.2.2.length≤9223372036854775807∧Byt x.1.1.l)∧∀ o∈t.2.2.1,Byt o.2
theorem ZpJ {b:Tapi_Block} (h:ZlN b):∃ c,ZdD b=some c∧(c=true→Ziv b):=by
 unfold ZdD;by_cases h1:12<(b.2.length:Int)
 ·rw [if_pos h1]
  exact ⟨false,rfl,by simp⟩
 rw [if_neg h1];refine Xg (step:=ZcO b) (fun q s=>∃ i:Nat,s=(i:Int)∧i≤b.2.length∧q=b.2.length-i∧∀ t∈b.2.take i,t.2.1.length≤70∧t.2.2.1.length≤70∧∀ o∈t.2.2.1,o.2.length≤600) _ ?_ _ _ ⟨0,rfl,by omega,rfl,by simp⟩;rintro q _ ⟨i,rfl,hi,rfl,ha⟩
 by_cases hlt:i<b.2.length
 ·simp only [ZcO]
  rw [if_pos (by omega),Zt hlt];have ht:=h.2 _ (List.getElem_mem hlt);obtain ⟨c,hc,hc2⟩:=ZtA ht.1 ht.2.1 fun x hx=>(ht.2.2.1 x hx).1
  rw [hc,Zb];cases c with
  | false=>exact .inr ⟨false,by simp,by simp⟩
  | true =>
   refine .inl ⟨b.2.length-(i+1),((i+1:Nat):Int),by omega,?_,i+1,rfl,by omega,rfl,?_⟩
   ·rw [if_neg (by simp),Yr hlt (by omega)]
   ·intro t ht
    rw [List.take_succ_eq_append_getElem hlt,List.mem_append,List.mem_singleton] at ht;rcases ht with ht | rfl
    ·exact ha t ht
    ·exact hc2 rfl
 ·simp only [ZcO]
  rw [if_neg (by omega)];refine .inr ⟨true,rfl,fun _=>⟨by omega,fun t ht=>?_⟩⟩;have:=ha t (by rwa [List.take_of_length_le (by omega)]);exact ⟨by omega,by omega,fun o ho=>by have:=this.2.2 o ho; omega⟩
theorem filterOf (b:Tapi_Block) (h:ZlN b):Zag b=some true:=by
 unfold Zag;rw [const_true,Zb,if_neg (by simp)];obtain ⟨c,hc,hc2⟩:=ZpJ h;rw [hc,Zb];cases c with
 | false=>rw [if_pos (by simp)]
 | true =>
  have hS:=hc2 rfl;have hB:Zsf b:=fun t ht=>⟨fun x hx=>((h.2 t ht).2.2.1 x hx).2,(h.2 t ht).2.2.2⟩
  have hl:(elS b).length≤100000:=by have:=Zkf hS b.2.length; rw [List.take_length] at this; unfold elS; omega
  obtain ⟨r,r1,r2,-,-⟩:=Zwq hS hB;rw [if_neg (by simp),r1,r2,Zku hS,ZjP hS];simp only [Zb,ZpI (Zmy hS hB) hl,and_self,if_true,ZqH];simp
theorem ZuV {b:Tapi_Block} (h:b.2.length≤maxLen∧∀ t∈b.2,(0≤t.1∧t.1≤4294967295)∧(t.2.1.length≤maxLen∧∀ a∈t.2.1,((∀ z∈a.1.1.l,(0≤z∧z≤255))∧(0≤a.1.2∧a.1.2≤4294967295))∧(0≤a.2.1∧a.2.1≤4294967295)∧(a.2.2.length≤maxLen∧∀ w∈a.2.2,(w.length≤maxLen∧∀ z∈w,(0≤z∧z≤255))))∧(t.2.2.1.length≤maxLen∧∀ a∈t.2.2.1,(-9223372036854775808≤a.1∧a.1≤9223372036854775807)∧(a.2.length≤maxLen∧∀ z∈a.2,(0≤z∧z≤255)))∧(0≤t.2.2.2∧t.2.2.2≤4294967295)):ZlN b:=by
 refine ⟨h.1,fun t ht=>?_⟩;obtain ⟨_,h1,h2,_⟩:=h.2 t ht;exact ⟨h1.1,h2.1,fun x hx=>⟨(h1.2 x hx).2.2.1,(h1.2 x hx).1.1⟩,fun o ho=>(h2.2 o ho).2.2⟩
end Go.Lc
end
section
namespace Go.Av
open Go.RowKit
open Go.Lc
set_option linter.unusedVariables false
theorem Zcv {P:Program} {tt:TT} {T:Tab} {G:Glob} {kp:Keep} {w:Bool} {n:Nat} (hm:P.follows .mixedOrders=true) (htt:∀ t i,tt t=some i→Yy P t=some i) (hT:∀ f F,T f=some F→Zb1 P G (f % 1000000) F) {f:FuncId} {fn:Func}
  (hf:P.funcs[f]? = some fn) (hb:(fn.body.isSome && !(fn.name == "runtime.NumGoroutine"))=true):Zh P G f (Xj tt T G kp w n fn):=by
 obtain ⟨h1,h2⟩:=Bool.and_eq_true_iff.1 hb;obtain ⟨c,hc⟩:=Option.isSome_iff_exists.1 h1;exact ZlD hm htt hT hf hc (by simpa using h2) fun ps r _ h=>⟨_,_,_,h⟩
theorem ZjQ {P:Program} {G:Glob} {f:FuncId} {F F':List PV→Option (PV×List (List Cell))} (h:Zh P G f F) (hw:∀ ps r,F' ps=some r→F ps=some r):Zh P G f F' :=
 ⟨h.1,fun S w ks hh ps vs r outs a1 a2 a3 a4 hF=>h.2 S w ks hh ps vs r outs a1 a2 a3 a4 (hw _ _ hF)⟩
def ZjR (k:IntKind):PV→Option Int
 | .one (.v (.int k' i))=>if k=k' then some i else none
 | _=>none
theorem ZlO {k:IntKind} {p:PV} {i:Int} (h:ZjR k p=some i):p = .one (.v (.int k i)):=by
 unfold ZjR at h;split at h
 ·split at h
  ·rename_i e; subst e; cases h; rfl
  ·cases h
 ·cases h
def dCs (k:IntKind):List Cell→Option (List Int)
 | []=>some []
 | c :: t=>match c with
  | .v (.int k' i)=>if k=k' then (dCs k t).map (i :: ·) else none
  | _=>none
theorem Zlr {k:IntKind}:∀ {cs:List Cell} {l:List Int},dCs k cs=some l→cs=ints k l
 | [],l,h=>by cases h; rfl
 | c :: t,l,h=>by
  unfold dCs at h;split at h
  ·split at h
   ·rename_i e
    subst e;obtain ⟨m,hm,rfl⟩:=Option.map_eq_some_iff.1 h;rw [Zlr hm]; rfl
   ·cases h
  ·cases h
def Zib (k:IntKind) (n:Nat):PV→Option (Arr n)
 | .agg cs=>match dCs k cs with
  | some l=>if h:l.length=n then some ⟨l,h⟩ else none
  | none=>none
 | _=>none
theorem Zkg {k:IntKind} {n:Nat} {p:PV} {a:Arr n} (h:Zib k n p=some a):p = .agg (arC k a):=by
 unfold Zib at h;split at h
 ·split at h
  ·rename_i e
   split at h
   ·cases h; rw [Zlr e]; rfl
   ·cases h
  ·cases h
 ·cases h
def dRs (k:IntKind):List (List Cell)→Option (List Int)
 | []=>some []
 | r :: t=>match r with
  | [.v (.int k' i)]=>if k=k' then (dRs k t).map (i :: ·) else none
  | _=>none
theorem ZqU {k:IntKind}:∀ {cs:List (List Cell)} {l:List Int},dRs k cs=some l→cs=Zd k l
 | [],l,h=>by cases h; rfl
 | c :: t,l,h=>by
  unfold dRs at h;split at h
  ·split at h
   ·rename_i e
    subst e;obtain ⟨m,hm,rfl⟩:=Option.map_eq_some_iff.1 h;rw [ZqU hm]; rfl
   ·cases h
  ·cases h
def ZjS (k:IntKind):PV→Option (List Int)
 | .one (.slice .no rs)=>dRs k rs
 | _=>none
theorem ZlP {k:IntKind} {p:PV} {l:List Int} (h:ZjS k p=some l):p = .one (.slice .no (Zd k l)):=by
 unfold ZjS at h;split at h
 ·rw [ZqU h]
 ·cases h
def d1 {α:Type} (d:PV→Option α):List PV→Option α
 | [p]=>d p
 | _=>none
def d2 {α β:Type} (d:PV→Option α) (e:PV→Option β):List PV→Option (α×β)
 | [p,q]=>match d p,e q with
  | some x,some y=>some (x,y)
  | _,_=>none
 | _=>none
theorem ZhY {α:Type} {d:PV→Option α} {ea:α→PV} (h:∀ p x,d p=some x→p=ea x) {ps:List PV} {x:α} (hx:d1 d ps=some x):ps=[ea x]:=by
 unfold d1 at hx;split at hx
 ·rw [h _ _ hx]
 ·cases hx
theorem Zsq {α β:Type} {d:PV→Option α} {e:PV→Option β} {ea:α→PV} {eb:β→PV} (h:∀ p x,d p=some x→p=ea x) (k:∀ p x,e p=some x→p=eb x) {ps:List PV} {x:α×β} (hx:d2 d e ps=some x):ps=[ea x.1,eb x.2]:=by
 unfold d2 at hx;split at hx
 ·split at hx
  ·rename_i h1 h2
   cases hx
   rw [h _ _ h1,k _ _ h2]
  ·cases hx
 ·cases hx
end Go.Av
end
section
namespace Go.Av
open Go.RowKit
open Go.Lc
set_option linter.unusedVariables false
def dHdr:PV→Option Tapi_Header
 | .agg (.v (.int .u32 a) :: l)=>match dCs .u8 (l.take 32),dCs .u8 ((l.drop 32).take 32),l.drop 64 with
  | some p,some q,[.v (.int .u32 t),.v (.int .u32 b),.v (.int .u32 n)]=>if h:p.length=32 then if k:q.length=32 then some (a,⟨p,h⟩,⟨q,k⟩,t,b,n) else none else none
  | _,_,_=>none
 | _=>none
theorem ZoE {p:PV} {x:Tapi_Header} (h:dHdr p=some x):p = .agg (.v (.int .u32 x.1) :: (arC .u8 x.2.1++(arC .u8 x.2.2.1++[.v (.int .u32 x.2.2.2.1),.v (.int .u32 x.2.2.2.2.1),.v (.int .u32 x.2.2.2.2.2)]))):=by
 unfold dHdr at h;split at h
 ·rename_i a l
  split at h
  ·rename_i p q t b n h1 h2 h3
   split at h
   ·split at h
    ·injection h with h
     subst h;have e1:=Zlr h1;have e2:=Zlr h2
     have e3:l=l.take 32++((l.drop 32).take 32++l.drop 64):=by
      have:l.drop 64=(l.drop 32).drop 32:=by rw [List.drop_drop]
      rw [this,List.take_append_drop,List.take_append_drop]
     rw [e1,e2,h3] at e3;rw [e3];rfl
    ·cases h
   ·cases h
  ·cases h
 ·cases h
end Go.Av
namespace Go.Lc
open Go.Av
theorem ZtB (x:Tapi_Header):Le (ZhN (Zd9 x)) (ZbJ x):=fun r h=>by
 obtain ⟨rfl,_⟩:=ZjL h;exact ZnM x
theorem Zsg (x:Tapi_Header):Le (ZhN (Zd9 x)) (ZbK x):=fun r h=>by
 obtain ⟨rfl,_⟩:=ZjL h;exact Zmx x
end Go.Lc
end
section
namespace Go.Av
open Go.RowKit
open Go.Lc
set_option linter.unusedVariables false
def eqL {α:Type} (f:α→α→Bool):List α→List α→Bool
 | [],[]=>true
 | a :: l,b :: m=>f a b && eqL f l m
 | _,_=>false
theorem ZfN {α:Type} {f:α→α→Bool} (h:∀ a b,f a b=true→a=b):∀ {l m:List α},eqL f l m=true→l=m
 | [],[],_=>rfl
 | a :: l,b :: m,k=>by
  obtain ⟨k1,k2⟩:=Bool.and_eq_true_iff.1 k;rw [h _ _ k1,ZfN h k2]
 | [],_ :: _,k=>by cases k
 | _ :: _,[],k=>by cases k
def eqI:Int→Int→Bool
 | .ofNat a,.ofNat b=>Nat.beq a b
 | .negSucc a,.negSucc b=>Nat.beq a b
 | _,_=>false
theorem eqI_ok:∀ {a b:Int},eqI a b=true→a=b
 | .ofNat a,.ofNat b,h=>by rw [Nat.eq_of_beq_eq_true h]
 | .negSucc a,.negSucc b,h=>by rw [Nat.eq_of_beq_eq_true h]
 | .ofNat _,.negSucc _,h=>by cases h
 | .negSucc _,.ofNat _,h=>by cases h
def eqC:Nat→Cell→Cell→Bool
 | 0,_,_=>false
 | n+1,c,d=>match c,d with
  | .v (.int k a),.v (.int k' b)=>decide (k=k') && eqI a b
  | .v (.bool a),.v (.bool b)=>decide (a=b)
  | .slice o r,.slice o' s=>decide (o=o') && eqL (eqL (eqC n)) r s
  | .own e r,.own e' s=>Nat.beq e e' && eqL (eqL (eqC n)) r s
  | _,_=>false
theorem eqC_ok:∀ {n:Nat} {c d:Cell},eqC n c d=true→c=d:=by
 intro n;induction n with
 | zero=>intro c d h; simp [eqC] at h
 | succ n ih =>
  intro c d h;simp only [eqC] at h;split at h
  ·obtain ⟨h1,h2⟩:=Bool.and_eq_true_iff.1 h; rw [of_decide_eq_true h1,eqI_ok h2]
  ·rw [of_decide_eq_true h]
  ·obtain ⟨h1,h2⟩:=Bool.and_eq_true_iff.1 h; rw [of_decide_eq_true h1,ZfN (fun _ _ k=>ZfN (fun _ _ q=>ih q) k) h2]
  ·obtain ⟨h1,h2⟩:=Bool.and_eq_true_iff.1 h; rw [Nat.eq_of_beq_eq_true h1,ZfN (fun _ _ k=>ZfN (fun _ _ q=>ih q) k) h2]
  ·cases h
def eqP:PV→PV→Bool
 | .one c,.one d=>eqC 6 c d
 | .agg l,.agg m=>eqL (eqC 6) l m
 | .io l,.io m=>eqL (eqC 6) l m
 | .ref l,.ref m=>eqL (eqC 6) l m
 | _,_=>false
theorem eqP_ok:∀ {p q:PV},eqP p q=true→p=q:=by
 intro p q h;unfold eqP at h;split at h
 ·rw [eqC_ok h]
 ·rw [ZfN (fun _ _ k=>eqC_ok k) h]
 ·rw [ZfN (fun _ _ k=>eqC_ok k) h]
 ·rw [ZfN (fun _ _ k=>eqC_ok k) h]
 ·cases h
noncomputable def cst (A:List PV) (V:PV×List (List Cell)):List PV→Option (PV×List (List Cell)):=fun ps=>Bool.rec (motive:=fun _=>Option (PV×List (List Cell))) none (some V) (eqL eqP ps A)
theorem ZcE {P:Program} {G:Glob} {f:FuncId} {F:List PV→Option (PV×List (List Cell))} {A:List PV} {V:PV×List (List Cell)} (h:Zh P G f F) (hv:F A=some V):Zh P G f (cst A V):=ZjQ h fun ps r k=>by
 unfold cst at k;cases e:eqL eqP ps A with
 | false=>rw [e] at k; cases k
 | true =>
  rw [e] at k;obtain rfl:=Option.some.inj k;rw [ZfN (fun _ _ q=>eqP_ok q) e];exact hv
noncomputable def gvF {α β:Type} (dec:List PV→Option α) (g:α→Option β) (R:α→β→PV×List (List Cell)):List PV→Option (PV×List (List Cell)):=fun ps=>match dec ps with
 | some x=>(g x).map (R x)
 | none=>none
theorem ZcF {P:Program} {G:Glob} {f:FuncId} {α β:Type} {enc:α→List PV} {g g':α→Option β} {R:α→β→PV×List (List Cell)} (hi:∀ a b,enc a=enc b→a=b) (v:Zh P G f (XW enc fun x=>(g x).map (R x))) (dec:List PV→Option α) (hd:∀ ps x,dec ps=some x→ps=enc x) (hle:∀ x,Le (g' x) (g x)):Zh P G f (gvF dec g' R):=by
 refine ZjQ v fun ps r h=>?_
 unfold gvF at h;split at h
 ·rename_i x hx
  obtain ⟨y,hy,rfl⟩:=Option.map_eq_some_iff.1 h;rw [hd _ _ hx];exact Xx hi (hle x y hy)
 ·cases h
end Go.Av
end
section
namespace Go.Av
theorem ZtC {x:Int} (h:(Lit.int .i64 x).wf=true):-9223372036854775808≤x∧x≤9223372036854775807:=by simpa [Lit.wf,IntKind.has,IntKind.min,IntKind.max,IntKind.signed,IntKind.bits] using h
theorem ZtD {x:Int} (h:(Lit.int .u32 x).wf=true):0≤x∧x≤4294967295:=by simpa [Lit.wf,IntKind.has,IntKind.min,IntKind.max,IntKind.signed,IntKind.bits] using h
theorem ZnO {x:Int} (h:(Lit.int .u8 x).wf=true):0≤x∧x≤255:=by simpa [Lit.wf,IntKind.has,IntKind.min,IntKind.max,IntKind.signed,IntKind.bits] using h
end Go.Av
end
section
namespace Go.Lc
open Go.RowKit
open Go.Av
def ZjT (x:Tapi_Header):Prop:=(0≤x.1∧x.1≤4294967295)∧Zhb x.2.1∧Zhb x.2.2.1∧(0≤x.2.2.2.1∧x.2.2.2.1≤4294967295)∧(0≤x.2.2.2.2.1∧x.2.2.2.2.1≤4294967295)∧(0≤x.2.2.2.2.2∧x.2.2.2.2.2≤4294967295)
def Zic (x:Tapi_Input):Prop:=Zij x.1∧(0≤x.2.1∧x.2.1≤4294967295)∧Zlf x.2.2
def Zji (x:(List Tapi_Input)):Prop:=x.length≤maxLen∧∀ a∈x,Zic a
def Ziw (x:(List Tapi_Output)):Prop:=x.length≤maxLen∧∀ a∈x,ZhB a
def ZkS (x:Tapi_Tx):Prop:=(0≤x.1∧x.1≤4294967295)∧Zji x.2.1∧Ziw x.2.2.1∧(0≤x.2.2.2∧x.2.2.2≤4294967295)
def Zls (x:(List Tapi_Tx)):Prop:=x.length≤maxLen∧∀ a∈x,ZkS a
def Zkv (x:Tapi_Block):Prop:=ZjT x.1∧Zls x.2
end Go.Lc
end
