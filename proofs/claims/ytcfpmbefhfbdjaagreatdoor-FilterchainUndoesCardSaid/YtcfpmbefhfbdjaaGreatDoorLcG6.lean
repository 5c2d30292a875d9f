import Derived.Test.YtcfpmbefhfbdjaaGreatDoorLcG5
import Derived.Test.YtcfpmbefhfbdjaaGreatDoorLcG4
import Derived.Test.YtcfpmbefhfbdjaaGreatDoorLcG3
namespace Go.Lc
open Go.RowKit
open Go.Av
set_option linter.unusedVariables false
set_option linter.unusedSimpArgs false
section
set_option maxRecDepth 100000
theorem ZvE {a b:List Int}(ha:Byt a) (hb:Byt b):Byt (a++b):=fun x hx=>(List.mem_append.1 hx).elim (ha x) (hb x)
end
noncomputable def idS (t:Tapi_Tx):Arr 32:=if Yq t=true then ZaJ (ZaJ (Xi t false)).l else zA 32
theorem Zr2 {t:Tapi_Tx}(h:Yq t=true):(Xi t false).length≤100000000:=by
 have h1:=Zo3 (Ziw h);have h2:=Zvq (t:=t) (w:=false);omega
theorem Zp3 (t:Tapi_Tx):Zex t=some (idS t):=by
 unfold Zex idS;rw[ZeU,Za];by_cases h:Yq t=true
 ·have hn:¬ ¬ Yq t=true:=by simp[h]
  rw[if_neg hn,if_pos h,Zjy (Zlk h),Za,Zn1 (Zr2 h)];rfl
 ·rw[if_pos h,if_neg h]
section
set_option maxRecDepth 100000
theorem ZkQ {α β ρ:Type}{step:Int×List β→Option ((Int×List β) ⊕ ρ)}(l:List α) (f:α→List β) (acc:List β){x:Option ρ}
  (h:∀ i (hi:i<l.length),step ((i:Int),acc++(l.take i).flatMap f)=some (.inl (((i+1:Nat):Int),acc++(l.take i).flatMap f++f l[i])))
  (he:step ((l.length:Int),acc++l.flatMap f)=x.map .inr):Ze step (0,acc)=x:=by
 have key:=ZG (step:=step) (fun i=>((i:Int),acc++(l.take i).flatMap f)) l.length (x:=x) ?_ ?_
 ·simpa using key
 ·intro i hi
  rw[h i hi,ZaZ f hi,List.append_assoc]
 ·simpa using he
def Zkc (h:Tapi_Header):List Int:=Yh (IntKind.u64.wrap h.1) 4++h.2.1.l++h.2.2.1.l++Yh (IntKind.u64.wrap h.2.2.2.1) 4++Yh (IntKind.u64.wrap h.2.2.2.2.1) 4++Yh (IntKind.u64.wrap h.2.2.2.2.2) 4
theorem ZiA (h:Tapi_Header):(Zkc h).length=80:=by simp[Zkc,h.2.1.hl,h.2.2.1.hl]
theorem ZnD (h:Tapi_Header):Xy h=some (Zkc h):=by
 unfold Xy;have l1:=h.2.1.hl;have l2:=h.2.2.1.hl;rw[Zh0 (by simp),Za,List.nil_append,ZnV (by simp),Za,ZnV (by simp[l1]),Za,Zh0 (by simp[l1,l2]),Za,Zh0 (by simp[l1,l2]),Za,Zh0 (by simp[l1,l2]),Za];rfl
theorem ZmI (h:Tapi_Header):Xz h=some (Zkc h):=by
 unfold Xz;have l1:=h.2.1.hl;have l2:=h.2.2.1.hl;rw[ZdB (by simp),Za,List.nil_append,Zit (by simp),Za,Zit (by simp[l1]),Za]
 have h0:Yk h (0,Yh (IntKind.u64.wrap h.1) 4++h.2.1.l++h.2.2.1.l)=some (.inl (1,Yh (IntKind.u64.wrap h.1) 4++h.2.1.l++h.2.2.1.l++Yh (IntKind.u64.wrap h.2.2.2.1) 4)):=by
  simp only[Yk];rw[if_pos (by omega),show(0:Int)=((0:Nat):Int) from rfl,YS (by omega)];simp only[List.getElem?_cons_zero,Za];rw[ZdB (by simp[l1,l2]),Za];rfl
 have h1:Yk h (1,Yh (IntKind.u64.wrap h.1) 4++h.2.1.l++h.2.2.1.l++Yh (IntKind.u64.wrap h.2.2.2.1) 4)=some (.inl (2,Yh (IntKind.u64.wrap h.1) 4++h.2.1.l++h.2.2.1.l++Yh (IntKind.u64.wrap h.2.2.2.1) 4++Yh (IntKind.u64.wrap h.2.2.2.2.1) 4)):=by
  simp only[Yk];rw[if_pos (by omega),show(1:Int)=((1:Nat):Int) from rfl,YS (by omega)];simp only[List.getElem?_cons_zero,List.getElem?_cons_succ,Za];rw[ZdB (by simp[l1,l2]),Za];rfl
 have h2:Yk h (2,Yh (IntKind.u64.wrap h.1) 4++h.2.1.l++h.2.2.1.l++Yh (IntKind.u64.wrap h.2.2.2.1) 4++Yh (IntKind.u64.wrap h.2.2.2.2.1) 4)=some (.inl (3,Zkc h)):=by
  simp only[Yk];rw[if_pos (by omega),show(2:Int)=((2:Nat):Int) from rfl,YS (by omega)];simp only[List.getElem?_cons_zero,List.getElem?_cons_succ,Za];rw[ZdB (by simp[l1,l2]),Za];rfl
 rw[ZU h0,ZU h1,ZU h2];exact ZbK (by simp[Yk,ZdU])
noncomputable def Zm7 (h:Tapi_Header):Arr 32:=ZaJ (ZaJ (Zkc h)).l
theorem ZuC (h:Tapi_Header):Zfp h=some (Zm7 h):=by
 unfold Zfp;rw[ZnD,Za,ZpW (by rw[ZiA]; omega)];rfl
theorem Zhw (h:Tapi_Header):Zai h=some (Zm7 h):=by
 unfold Zai;rw[ZmI,Za,Zn1 (by rw[ZiA]; omega)];rfl
noncomputable def Zr3 (a:Arr 32):Arr 2:=⟨[wdv (a.l.take 8),wdv ((a.l.drop 8).take 8)],rfl⟩
theorem ZvF (a:Arr 32):Zig a=some (Zr3 a):=by
 unfold Zig;rw[Zmt _ (by simp),Za,Zmt _ (by simp)];rfl
theorem Ztg (t:Tapi_Tx) (w:Bool):Zga t w=some (if Yq t=true then(Xi t w,0) else([],4)):=by
 unfold Zga;rw[ZqS,Za];by_cases h:Yq t=true
 ·rw[if_neg (by simp[h]),if_pos h,Zoz (Zlk h)]
  rfl
 ·rw[if_pos h,if_neg h]
theorem ZvG (t:Tapi_Tx) (w:Bool):Zdx t w=some (if Yq t=true then(Xi t w,0) else([],4)):=by
 unfold Zdx;rw[ZeU,Za];by_cases h:Yq t=true
 ·rw[if_neg (by simp[h]),if_pos h,Zjy (Zlk h)]
  rfl
 ·rw[if_pos h,if_neg h]
def Zkz (b:Tapi_Block):List Int:=Zkc b.1++ZaH (b.2.length:Int)++b.2.flatMap fun t=>Xi t true
theorem Zh1 {t:Tapi_Tx}(h:Yq t=true):(Xi t true).length≤20000:=by
 classical
 unfold Yq at h;simp only[decide_eq_true_eq] at h;exact h.2
theorem ZdD {α β:Type}(f:α→List β) (c:Nat):∀ (l:List α),(∀ a∈l,(f a).length≤c)→(l.flatMap f).length≤c * l.length
 | [],_=>by simp
 | a :: l,h=>by
  have h1:=h a (by simp);have h2:=ZdD f c l fun x hx=>h x (by simp[hx])
  rw[List.flatMap_cons,List.length_append,List.length_cons,Nat.mul_succ];omega
noncomputable def Zlq (b:Tapi_Block):List Int×Int:=by
 classical exact if 256<b.2.length then([],4) else if ∃ t∈b.2,¬ Yq t=true then([],4) else if 100000<(Zkz b).length then([],4) else(Zkz b,0)
theorem ZvH {b:Tapi_Block}(h:b.2.length≤256) (hf:∀ t∈b.2,Yq t=true) (i:Nat):(Zkc b.1++ZaH (b.2.length:Int)++(b.2.take i).flatMap fun t=>Xi t true).length≤10000000:=by
 have h1:=ZdD (fun t=>Xi t true) 20000 (b.2.take i) fun t ht=>Zh1 (hf t (List.mem_of_mem_take ht))
 have h2:=ZaF (b.2.length:Int);have h3:20000 * (b.2.take i).length≤20000 * 256:=Nat.mul_le_mul_left _ (by rw[List.length_take]; omega);rw[List.length_append,List.length_append,ZiA];omega
theorem Zth (b:Tapi_Block):Zdv b=some (Zlq b):=by
 classical
 unfold Zdv Zlq;by_cases h:256<b.2.length
 ·rw[if_pos (by omega),if_pos h]
 rw[if_neg (by omega),if_neg h,ZnD,Za,Zfz (by omega),ZjH (by omega) (by rw[ZiA]; omega),Za]
 have hpre:∀ i,(∀ t∈b.2.take i,Yq t=true)→(Zkc b.1++ZaH (b.2.length:Int)++(b.2.take i).flatMap fun t=>Xi t true).length≤10000000:=by
  intro i hi;have h1:=ZdD (fun t=>Xi t true) 20000 (b.2.take i) fun t ht=>Zh1 (hi t ht)
  have h2:=ZaF (b.2.length:Int);have h3:20000 * (b.2.take i).length≤20000 * 256:=Nat.mul_le_mul_left _ (by rw[List.length_take]; omega);rw[List.length_append,List.length_append,ZiA];omega
 have key:=ZeV (step:=Zbs b) (fun i=>((i:Int),Zkc b.1++ZaH (b.2.length:Int)++(b.2.take i).flatMap fun t=>Xi t true)) b.2.length (fun i=>∃ h:i<b.2.length,¬ Yq b.2[i]=true) (some ([],4)) (some (if 100000<(Zkz b).length then([],4) else(Zkz b,0))) ?_ ?_ ?_ rfl
 ·have e:((∃ i,i<b.2.length∧∃ h:i<b.2.length,¬ Yq b.2[i]=true)↔∃ t∈b.2,¬ Yq t=true):=by
   constructor
   ·rintro⟨i,_,hi,h⟩
    exact⟨_,List.getElem_mem hi,h⟩
   ·rintro⟨t,ht,h⟩
    obtain⟨i,hi,rfl⟩:=List.getElem_of_mem ht;exact⟨i,hi,hi,h⟩
  simp only[List.take_zero,List.flatMap_nil,List.append_nil] at key;rw[show((0:Nat):Int)=0 from rfl] at key;rw[key];by_cases hb:∃ t∈b.2,¬ Yq t=true
  ·rw[if_pos (e.2 hb),if_pos hb]
  ·rw[if_neg (fun x=>hb (e.1 x)),if_neg hb]
 ·intro i hi hp hn
  have hf:Yq b.2[i]=true:=Decidable.byContradiction fun c=>hn ⟨hi,c⟩
  have hl:=hpre i fun t ht=>by
   obtain⟨j,hj,rfl⟩:=List.getElem_of_mem ht;rw[List.length_take] at hj;rw[List.getElem_take];exact Decidable.byContradiction fun c=>hp j (by omega) ⟨by omega,c⟩
  have hb:=Zh1 hf;simp only[Zbs];rw[if_pos (by omega),Zi hi,Ztg,Za,if_pos hf];dsimp only;rw[if_neg (by simp),Zj (by omega),Zu hi (by omega),ZaZ _ hi,List.append_assoc _ _ (Xi _ _)]
 ·rintro i hi hp ⟨_,hf⟩
  simp only[Zbs];rw[if_pos (by omega),Zi hi,Ztg,Za,if_neg hf];rfl
 ·intro _
  simp only[Zbs,List.take_length];rw[if_neg (by omega)];unfold ZeL;rw[show(Zkc b.1++ZaH (b.2.length:Int)++b.2.flatMap fun t=>Xi t true)=Zkz b from rfl];by_cases hc:100000<(Zkz b).length
  ·rw[if_pos (by omega),if_pos hc]
  ·rw[if_neg (by omega),if_neg hc]
theorem Zr4 {b:Tapi_Block}(h:b.2.length≤256) (hf:∀ t∈b.2,Yq t=true):Zdy b=some (Zkz b):=by
 unfold Zdy;rw[ZmI,Za,Zfz (by omega),Zj7 (by omega) (by rw[ZiA]; omega),Za];refine ZkQ b.2 (fun t=>Xi t true) _ ?_ ?_
 ·intro i hi
  have hl:=ZvH h hf i;have hfi:=hf _ (List.getElem_mem hi);have hb:=Zh1 hfi;simp only[ZeP];rw[if_pos (by omega),Zi hi,ZvG,Za,if_pos hfi];dsimp only;rw[Zj (by omega),Zu hi (by omega)]
 ·simp only[ZeP]
  rw[if_neg (by omega)];rfl
noncomputable def ZkR (b:Tapi_Block):Bool:=by classical exact decide ((Zlq b).2=0)
theorem ZuD (b:Tapi_Block):Zft b=some (ZkR b):=by
 classical
 unfold Zft ZkR Zlq;by_cases h:256<b.2.length
 ·rw[if_pos (by omega),if_pos h]
  rfl
 rw[if_neg (by omega),if_neg h];by_cases hb:∃ t∈b.2,¬ Yq t=true
 ·rw[if_pos hb]
  have key:=Zd0 (step:=Xr b) (fun i=>(i:Int)) b.2 (fun t=>¬ Yq t=true) (some false) (ZcJ b) ?_ ?_ ?_ (s:=((0:Nat):Int)) rfl
  ·rw[show((0:Nat):Int)=0 from rfl,if_pos hb] at key
   rw[key];rfl
  ·intro i hi hn
   simp only[Xr];rw[if_pos (by omega),Zi hi,ZeU,Za,if_neg hn,Zu hi (by omega)]
  ·intro i hi hn
   simp only[Xr];rw[if_pos (by omega),Zi hi,ZeU,Za,if_pos hn];rfl
  ·simp only[Xr]
   rw[if_neg (by omega)]
 ·rw[if_neg hb]
  have hf:∀ t∈b.2,Yq t=true:=fun t ht=>Decidable.byContradiction fun c=>hb ⟨t,ht,c⟩
  have key:=Zd0 (step:=Xr b) (fun i=>(i:Int)) b.2 (fun t=>¬ Yq t=true) (some false) (ZcJ b) ?_ ?_ ?_ (s:=((0:Nat):Int)) rfl
  ·rw[show((0:Nat):Int)=0 from rfl,if_neg hb] at key
   rw[key];unfold ZcJ;rw[Zr4 (by omega) hf,Za];by_cases hc:100000<(Zkz b).length
   ·rw[if_pos hc]
    simp
    omega
   ·rw[if_neg hc]
    simp
    omega
  ·intro i hi hn
   simp only[Xr];rw[if_pos (by omega),Zi hi,ZeU,Za,if_neg hn,Zu hi (by omega)]
  ·intro i hi hn
   simp only[Xr];rw[if_pos (by omega),Zi hi,ZeU,Za,if_pos hn];rfl
  ·simp only[Xr]
   rw[if_neg (by omega)]
def ZiB (o:Tapi_Output):List (List Int):=if 0<o.2.length then[o.2] else[]
def inE (x:Tapi_Input):List (List Int):=[ZiV x.1]
def txE (t:Tapi_Tx):List (List Int):=t.2.2.1.flatMap ZiB++if cbS t=true then[] else t.2.1.flatMap inE
def elS (b:Tapi_Block):List (List Int):=b.2.flatMap txE
def Zl9 (b:Tapi_Block):Prop:=b.2.length≤256∧∀ t∈b.2,t.2.1.length≤100∧t.2.2.1.length≤100∧∀ o∈t.2.2.1,o.2.length≤100000
theorem Zlr (o:Tapi_Output):(ZiB o).length≤1:=by unfold ZiB; split <;> simp
theorem ZvI {t:Tapi_Tx}(h:t.2.1.length≤100∧t.2.2.1.length≤100):(txE t).length≤200:=by
 have h1:=ZdD ZiB 1 t.2.2.1 fun o _=>Zlr o
 have h2:=ZdD inE 1 t.2.1 fun o _=>by simp[inE]
 unfold txE;split <;> simp only[List.length_append,List.length_nil] <;> omega
theorem ZvJ {b:Tapi_Block}(h:Zl9 b) (i:Nat):((b.2.take i).flatMap txE).length≤51200:=by
 have h1:=ZdD txE 200 (b.2.take i) fun t ht=>ZvI ⟨(h.2 t (List.mem_of_mem_take ht)).1,(h.2 t (List.mem_of_mem_take ht)).2.1⟩
 have h2:=h.1;rw[List.length_take] at h1;omega
theorem ZuE {t:Tapi_Tx}(h:t.2.1.length≤100∧t.2.2.1.length≤100∧∀ o∈t.2.2.1,o.2.length≤100000) (acc:List (List Int)) (ha:acc.length≤1000000) (p:Int)
  {step:Int×List (List Int)→Option ((Int×List (List Int)) ⊕ ((Int×List (List Int)) ⊕ List (List Int)))}{K2:List (List Int)→Option ((Int×List (List Int)) ⊕ List (List Int))}{Cl:List Int→Option (List Int)}
  (hs:∀ p108 p109,step (p108,p109)=if p108<(t.2.2.1.length:Int) then(idx (t.2.2.1) (p108)).bind fun x131=>(if 0<(x131.2.length:Int) then(Cl x131.2).bind fun y135=>(chk (p109.length+1≤5864062014805)).bind fun _=>some (.inl (IntKind.i64.wrap (p108+1),p109++[y135])) else some (.inl (IntKind.i64.wrap (p108+1),p109))) else(K2 p109).map Sum.inr)
  (hC:∀ s:List Int,s.length≤100000→Cl s=some s):Ze step (0,acc)=K2 (acc++t.2.2.1.flatMap ZiB):=by
 refine ZkQ t.2.2.1 ZiB acc ?_ ?_
 ·intro i hi
  have hl:=ZdD ZiB 1 (t.2.2.1.take i) fun o _=>Zlr o
  rw[List.length_take] at hl;rw[hs,if_pos (by omega),Zi hi,Zu hi (by omega)];unfold ZiB;by_cases h0:0<t.2.2.1[i].2.length
  ·rw[if_pos (by omega),if_pos h0,hC _ (h.2.2 _ (List.getElem_mem hi)),Za]
   refine Zj ?_;have:(acc++(t.2.2.1.take i).flatMap ZiB).length≤1000100:=by rw[List.length_append]; omega
   unfold ZiB at this;omega
  ·rw[if_neg (by omega),if_neg h0,List.append_nil]
 ·rw[hs,if_neg (by omega)]
theorem ZvK {t:Tapi_Tx}(h:t.2.1.length≤100∧t.2.2.1.length≤100∧∀ o∈t.2.2.1,o.2.length≤100000) (acc:List (List Int)) (ha:acc.length≤1000000)
  {step:Int×List (List Int)→Option ((Int×List (List Int)) ⊕ ((Int×List (List Int)) ⊕ List (List Int)))}{K3:List (List Int)→Option ((Int×List (List Int)) ⊕ List (List Int))}{Pt:Tapi_OutPoint→Option (List Int)}
  (hs:∀ p123 p124,step (p123,p124)=if p123<(t.2.1.length:Int) then(idx (t.2.1) (p123)).bind fun x128=>(Pt x128.1).bind fun y129=>(chk (p124.length+1≤5864062014805)).bind fun _=>some (.inl (IntKind.i64.wrap (p123+1),p124++[y129])) else(K3 p124).map Sum.inr)
  (hP:∀ o,Pt o=some (ZiV o)):Ze step (0,acc)=K3 (acc++t.2.1.flatMap inE):=by
 refine ZkQ t.2.1 inE acc ?_ ?_
 ·intro i hi
  have hl:=ZdD inE 1 (t.2.1.take i) fun o _=>by simp[inE]
  rw[List.length_take] at hl;have:(acc++(t.2.1.take i).flatMap inE).length≤1000100:=by rw[List.length_append]; omega
  rw[hs,if_pos (by omega),Zi hi,Zu hi (by omega),hP,Za,Zj (by omega)];rfl
 ·rw[hs,if_neg (by omega)]
theorem Zqv {b:Tapi_Block}(h:Zl9 b):Zbr b=some (elS b):=by
 unfold Zbr;refine ZkQ b.2 txE [] ?_ ?_
 ·intro i hi
  have hp:=ZvJ h i;have hb:=h.1;have ht:=h.2 _ (List.getElem_mem hi);simp only[Zdm,List.nil_append];rw[if_pos (by omega),Zi hi];generalize hacc:(b.2.take i).flatMap txE=acc at hp ⊢;refine(ZuE ht acc (by omega) (i:Int) (K2:=Xx b.2[i] (i:Int)) (Cl:=Yt) (fun p q=>rfl) (fun s hs=>?_)).trans ?_
  ·unfold Yt
   exact Zj (by omega)
  ·have hl:=ZdD ZiB 1 b.2[i].2.2.1 fun o _=>Zlr o
   unfold Xx;rw[ZrR,Za,Zu hi (by omega),txE];by_cases hc:cbS b.2[i]=true
   ·rw[if_pos hc,if_pos hc,List.append_nil]
   ·rw[if_neg hc,if_neg hc]
    refine(ZvK ht _ (by rw[List.length_append]; omega) (K3:=Xw (i:Int)) (Pt:=Zew) (fun p q=>rfl) ZpL).trans ?_;unfold Xw;rw[Zu hi (by omega),List.append_assoc]
 ·simp only[Zdm,List.nil_append]
  rw[if_neg (by omega)];rfl
def ZuF (b:Tapi_Block):Prop:=∀ t∈b.2,(∀ x∈t.2.1,Byt x.1.1.l)∧∀ o∈t.2.2.1,Byt o.2
theorem Zti {b:Tapi_Block}(h:Zl9 b) (hb:ZuF b):ZnC (elS b):=by
 intro x hx;obtain⟨t,ht,hx⟩:=List.mem_flatMap.1 hx;obtain⟨h1,h2⟩:=hb t ht;have h3:=(h.2 t ht).2.2;rw[txE,List.mem_append] at hx;rcases hx with hx | hx
 ·obtain⟨o,ho,hx⟩:=List.mem_flatMap.1 hx
  unfold ZiB at hx;split at hx
  ·obtain rfl:=List.mem_singleton.1 hx
   exact⟨h2 o ho,h3 o ho⟩
  ·cases hx
 ·split at hx
  ·cases hx
  ·obtain⟨y,hy,hx⟩:=List.mem_flatMap.1 hx
   obtain rfl:=List.mem_singleton.1 hx;exact⟨ZvE (h1 y hy) (ZuB _ _),by simp⟩
end
section
set_option maxRecDepth 100000
abbrev M64 (x:Int):Prop:=0≤x∧x≤18446744073709551615
def dg (a:Arr 4):Prop:=∀ i,i<4→M64 (a.at i)
theorem dg_zero:dg (zA 4):=by
 intro i hi;have:i=0∨i=1∨i=2∨i=3:=by omega
 rcases this with rfl | rfl | rfl | rfl <;> exact⟨by decide,by decide⟩
theorem Zfc {a:Arr 4}(h:dg a){j:Nat}(hj:j<4){x:Int}(hx:M64 x):dg (a.put j x):=by
 intro i hi;by_cases e:j=i
 ·subst e
  rw[Arr.at_put _ hi];exact hx
 ·rw[Arr.at_put_ne _ e]
  exact h i hi
theorem ZgQ (x:Int):M64 (IntKind.u64.wrap x):=Zlp x
theorem Zh2 (op:BinOp) (x y:Int):M64 (bits op .u64 x y):=Zm6 op x y
theorem Zmu {n:Int}(h:M64 n):dg ((zA 4).put 0 n):=Zfc dg_zero (by omega) h
theorem ZeW {n:Int}(h:0≤n) (m:Int):n.tdiv m=n / m:=Int.tdiv_eq_ediv_of_nonneg h
theorem Zbw {n:Int}(h:0≤n) (m:Int):n.tmod m=n % m:=Int.tmod_eq_emod_of_nonneg h
theorem ZjI (a:Arr 4){n:Int}(h0:0≤n) (h1:n<256):Tot (ZaT a n) fun _=>True:=by
 unfold ZaT;rw[ZeW h0,Zbw h0,wi (n / 64) (by omega)];refine Xe (by omega) (by omega) fun j _ hj=>Zw (by omega) (Zb trivial)
theorem Zq2 (a:Arr 4):Tot (ZbD a) fun r=>0≤r∧r≤256:=by
 unfold ZbD;refine ZI (I:=fun(n:Nat) (s:Int)=>s+1=(n:Int)∧s≤255) (n:=256) ?_ ⟨by omega,by omega⟩;rintro n s ⟨hs,hs2⟩
 simp only[Zg0];refine Zf (fun h=>?_) (fun h=>?_)
 ·refine(ZjI a h (by omega)).bind fun y _=>Zf (fun _=>?_) (fun _=>?_)
  ·exact Zb (show 0≤IntKind.i64.wrap (s+1)∧IntKind.i64.wrap (s+1)≤256 by rw[wi (s+1) (by omega)]; omega)
  ·exact Zb ⟨n-1,by omega,by rw[wi _ (by omega)]; omega,by rw[wi _ (by omega)]; omega⟩
 ·exact Tot.out (Zb (by omega))
theorem Zma {x y c:Int}(hx:M64 x) (hy:M64 y) (hc:0≤c∧c≤1):Tot (Xo x y c) fun r=>M64 r.1∧0≤r.2∧r.2≤1:=by
 unfold Xo;exact Zw (by omega) (Zb ⟨by simp only; omega,by simp only; omega⟩)
theorem Zq3 {a b:Arr 4}(ha:dg a) (hb:dg b):Tot (ZeM a b) fun r=>dg r.1:=by
 unfold ZeM;refine ZI (I:=fun(n:Nat) (s:Int×Int×Arr 4)=>s.2.1+(n:Int)=4∧0≤s.2.1∧(0≤s.1∧s.1≤1)∧dg s.2.2) (n:=4) ?_ ⟨by simp,by simp,by simp,dg_zero⟩;rintro n ⟨c,i,r⟩ ⟨h1,h2,h3,h4⟩
 dsimp only at h1 h2 h3 h4;simp only[Zi6];refine Zf (fun h=>?_) (fun h=>?_)
 ·refine Xe h2 h fun j hj hj4=>?_
  refine(Zma (ha j hj4) (hb j hj4) h3).bind fun y hy=>Zb ⟨n-1,by omega,?_,?_,hy.2,Zfc h4 hj4 hy.1⟩
  ·dsimp only
   rw[wi _ (by omega)];omega
  ·dsimp only
   rw[wi _ (by omega)];omega
 ·exact Tot.out (Zb h4)
theorem Zq4 {a:Arr 4}(ha:dg a){n:Int}(hn:n≤100000):Tot (ZeN a n) dg:=by
 unfold ZeN;refine Zf (fun _=>Zb dg_zero) (fun h=>?_);refine ZI (I:=fun(k:Nat) (s:Int×Arr 4)=>s.1≤(k:Int)∧s.1≤100000∧dg s.2) (n:=n.toNat) ?_ ⟨by dsimp only; omega,hn,ha⟩;rintro k ⟨i,r⟩ ⟨h1,h1b,h2⟩
 dsimp only at h1 h1b h2;simp only[Lref02_Shl_s1];refine Zf (fun h=>?_) (fun h=>?_)
 ·refine(Zq3 h2 h2).bind fun y hy=>Zb ⟨k-1,by omega,?_,?_,hy⟩
  ·dsimp only
   rw[wi _ (by omega)];omega
  ·dsimp only
   rw[wi _ (by omega)];omega
 ·exact Tot.out (Zb h2)
theorem Zmv {a:Arr 4}(ha:dg a) (n:Int):Tot (ZaU a n) dg:=by
 unfold ZaU;refine Zf (fun _=>Zb ha) (fun h=>Zf (fun _=>Zb dg_zero) (fun h'=>?_));refine ZI (I:=fun(k:Nat) (s:Int×Arr 4)=>s.1+(k:Int)=256∧0≤s.1∧dg s.2) (n:=256) ?_ ⟨by simp,by simp,dg_zero⟩;rintro k ⟨i,r⟩ ⟨h1,h2,h3⟩
 dsimp only at h1 h2 h3;simp only[ZgZ,Zdu];rw[wi (i+n) (by omega)];refine Zf (fun h=>?_) (fun h=>?_)
 ·refine(ZjI a (by omega) h).bind fun y _=>Zf (fun _=>?_) (fun _=>?_)
  ·rw[ZeW h2,Zbw h2,wi (i / 64) (by omega)]
   refine Xe (by omega) (by omega) fun j hj hj4=>Zw (by omega) (Zb ⟨k-1,by omega,?_,?_,Zfc h3 hj4 (Zh2 _ _ _)⟩)
   ·dsimp only
    rw[wi _ (by omega)];omega
   ·dsimp only
    rw[wi _ (by omega)];omega
  ·refine Zb ⟨k-1,by omega,?_,?_,h3⟩
   ·dsimp only
    rw[wi _ (by omega)];omega
   ·dsimp only
    rw[wi _ (by omega)];omega
 ·exact Tot.out (Zb h3)
theorem ZoY (a:Arr 32):Tot (Zaw a) dg:=by
 unfold Zaw;refine ZI (I:=fun(k:Nat) (s:Int×Arr 4)=>s.1+(k:Int)=32∧0≤s.1∧dg s.2) (n:=32) ?_ ⟨by simp,by simp,dg_zero⟩;rintro k ⟨i,r⟩ ⟨h1,h2,h3⟩
 dsimp only at h1 h2 h3;simp only[ZfC];refine Zf (fun h=>?_) (fun h=>?_)
 ·rw[wi (31-i) (by omega),ZeW (by omega),Zbw (by omega),wi ((31-i) / 8) (by omega),wi (8 * ((31-i) % 8)) (by omega)]
  refine Xe (by omega) (by omega) fun j hj hj4=>Xe h2 h fun j2 hj2 _=>Zw (by omega) (Zb ⟨k-1,by omega,?_,?_,Zfc h3 hj4 (Zh2 _ _ _)⟩)
  ·dsimp only
   rw[wi _ (by omega)];omega
  ·dsimp only
   rw[wi _ (by omega)];omega
 ·exact Tot.out (Zb h3)
theorem Zkd (a:Arr 4):Tot (ZbC a) fun _=>True:=Zb trivial
theorem ZjJ (a b:Arr 4):Tot (Xn a b) fun _=>True:=by
 unfold Xn;refine ZI (I:=fun(n:Nat) (s:Int)=>s+1=(n:Int)∧s≤3) (n:=4) ?_ ⟨by omega,by omega⟩;rintro n s ⟨hs,hs2⟩
 simp only[Zi1];refine Zf (fun h=>?_) (fun h=>?_)
 ·refine Xe h (by omega) fun j _ hj=>Zf (fun _=>Zb trivial) (fun _=>Zf (fun _=>Zb trivial) (fun _=>?_))
  exact Zb ⟨n-1,by omega,by rw[wi _ (by omega)]; omega,by rw[wi _ (by omega)]; omega⟩
 ·exact Tot.out (Zb trivial)
theorem Zls (n:Int):X7 n=some ((zA 4).put 0 n):=rfl
abbrev M32 (x:Int):Prop:=0≤x∧x≤4294967295
theorem Zlt {n:Int}(hn:M32 n):Tot (Zbc n) fun r=>dg r.1:=by
 unfold Zbc;have f1:n.fdiv 16777216=n / 16777216:=by rw[Int.fdiv_eq_ediv_of_nonneg _ (by omega)]
 rw[f1];have hx:0≤n / 16777216∧n / 16777216≤255:=by omega
 generalize n / 16777216=x at hx
 have hk:∀ p,dg p→Tot (Zc6 p) fun r=>dg r.1:=by
  intro p hp;unfold Zc6;exact(Zkd p).bind fun y _=>Zf (fun _=>Zb dg_zero) (fun _=>Zb hp)
 rw[Zls,Za,wi x (by omega)];have hm:=Zmu (ZgQ (bits .and .u32 n 16777215));refine Zf (fun _=>Zb dg_zero) (fun _=>Zf (fun h=>?_) (fun h=>?_))
 ·exact(Zmv hm _).bind fun y hy=>hk y hy
 ·refine(Zkd _).bind fun y _=>?_
  rw[wi (x-3) (by omega),wi (8 * (x-3)) (by omega)]
  have h5:Tot (if ¬ (y=true) then(ZbD ((zA 4).put 0 (IntKind.u64.wrap (bits .and .u32 n 16777215)))).bind fun y11=>some (decide (256<IntKind.i64.wrap (y11+8 * (x-3)))) else some false) fun _=>True :=
   Zf (fun _=>(Zq2 _).bind fun z _=>Zb trivial) (fun _=>Zb trivial)
  refine h5.bind fun z _=>Zf (fun _=>Zb dg_zero) (fun _=>?_)
  exact(Zq4 hm (by omega)).bind fun q hq=>hk q hq
theorem ZoJ (a:Arr 32){n:Int}(hn:M32 n):Tot (Zc7 a n) fun _=>True:=by
 unfold Zc7;refine(Zlt hn).bind fun y _=>?_
 have h5:Tot (if y.2=0 then(Zaw a).bind fun y2=>(Xn y2 y.1).bind fun y3=>some (decide (y3≤0)) else some false) fun _=>True :=
  Zf (fun _=>(ZoY a).bind fun z _=>(ZjJ _ _).bind fun q _=>Zb trivial) (fun _=>Zb trivial)
 exact h5.bind fun z _=>Zb trivial
theorem Ztj (op:BinOp) (x y:Int):M32 (bits op .u32 x y):=by
 show M32 (IntKind.u32.wrap _)
 rw[Zln];omega
end
section
set_option maxRecDepth 100000
theorem Zxw (L:List (List Int)) (hl:L.length≤1000000) (h:(L.flatMap id).length≤1000000000):ZaK L=some (L.flatMap id):=by
 unfold ZaK;refine ZkQ L id [] ?_ ?_
 ·intro i hi
  have h1:=ZdM L id (i+1);rw[ZaZ id hi,List.length_append] at h1;simp only[ZcH,List.nil_append];rw[if_pos (by omega),Zi hi,ZaE (by simp only[id] at h1 ⊢; omega),Za,Zu hi (by omega)];rfl
 ·simp only[ZcH,List.nil_append]
  rw[if_neg (by omega)];rfl
noncomputable def ZuQ (t:Tapi_Tx):Arr 32:=if Yq t=true then ZaJ (ZaJ (Xi t true)).l else zA 32
theorem ZuG (t:Tapi_Tx):Zfq t=some (ZuQ t):=by
 unfold Zfq ZuQ;rw[ZeU,Za];by_cases h:Yq t=true
 ·have hb:=Zh1 h
  rw[if_neg (by simp[h]),if_pos h,Zjy (Zlk h),Za,Zn1 (by omega)];rfl
 ·rw[if_pos h,if_neg h]
noncomputable def ZuR (a b:Arr 32):Arr 32:=ZaJ ([1]++(a.l++b.l))
theorem ZvL (a b:Arr 32):Zfr a b=some (ZuR a b):=by
 unfold Zfr;have ha:=a.hl;have hb:=b.hl;rw[Zxw _ (by simp) (by simp[ha,hb]),Za,Zhu (by simp[ha,hb]),Za];simp[ZuR]
theorem Zr5 (l:List (Arr 32)) (h1:1≤l.length) (h2:l.length≤1024):Tot (Zdw l) fun r=>(1≤r.length∧r.length≤1025)∧∀ x∈r,1≤x.length:=by
 unfold Zdw;refine ZI (I:=fun(n:Nat) (s:List (Arr 32)×List (List (Arr 32)))=>s.1.length≤n∧1≤s.1.length∧1≤s.2.length∧s.2.length+s.1.length≤1025∧∀ x∈s.2,1≤x.length) (n:=1024) ?_ ⟨h2,h1,by simp,by simp; omega,by simpa using h1⟩;rintro n ⟨p,q⟩ ⟨k1,k2,k3,k4,k5⟩
 dsimp only at k1 k2 k3 k4 k5;simp only[Lref07_levels_s1];refine Zf (fun h=>?_) (fun h=>Tot.out (Zb ⟨⟨k3,by omega⟩,k5⟩));refine ZI (I:=fun(m:Nat) (s:Int×List (Arr 32))=>s.1=2 * (s.2.length:Int)∧s.1<p.length+2∧(p.length:Int)+2≤s.1+(m:Int)) (n:=p.length+2) ?_ ⟨by simp,by simp; omega,by simp⟩;rintro m ⟨i,acc⟩ ⟨g1,g2,g3⟩
 dsimp only at g1 g2 g3;simp only[Zhh,Zbu];refine Zf (fun hlt=>?_) (fun hlt=>?_)
 ·rw[wi (i+1) (by omega)]
  refine Zf (fun hlt2=>?_) (fun hlt2=>?_)
  ·refine XW (by omega) hlt fun x _=>XW (by omega) hlt2 fun y _=>?_
   rw[ZvL,Za];refine Zw (by omega) (Zb ⟨m-2,by omega,?_,?_,?_⟩)
   ·dsimp only
    rw[wi _ (by omega)];simp
    omega
   ·dsimp only
    rw[wi _ (by omega)];omega
   ·dsimp only
    rw[wi _ (by omega)];omega
  ·refine XW (by omega) hlt fun x _=>?_
   refine Zw (by omega) (Zb ⟨m-2,by omega,?_,?_,?_⟩)
   ·dsimp only
    rw[wi _ (by omega)];simp
    omega
   ·dsimp only
    rw[wi _ (by omega)];omega
   ·dsimp only
    rw[wi _ (by omega)];omega
 ·refine Tot.out ?_
  unfold Zc9;refine Zw (by omega) (Zb ⟨n-1,by omega,?_,?_,?_,?_,?_⟩)
  ·dsimp only
   omega
  ·dsimp only
   omega
  ·simp
  ·simp only[List.length_append,List.length_singleton]
   omega
  ·intro x hx
   simp only[List.mem_append,List.mem_singleton] at hx;rcases hx with hx | rfl
   ·exact k5 x hx
   ·omega
theorem Ztk (l:List (Arr 32)):Tot (Zfs l) fun _=>True:=by
 unfold Zfs;refine Zf (fun _=>Zb trivial) (fun h=>?_);refine(Zr5 l (by omega) (by omega)).bind fun y hy=>?_
 rw[wi _ (by omega)];refine Xe (by omega) (by omega) fun j _ hj=>ZdC hj fun x hx=>?_
 have:=hy.2 x (List.mem_of_getElem? hx);exact ZdC (by omega) fun z _=>Zb trivial
theorem ZnE (l:List Tapi_Tx) (hl:l.length≤1000000):Tot (ZdV l) fun _=>True:=by
 unfold ZdV;refine ZI (I:=fun(n:Nat) (s:Int×List (Arr 32))=>s.1+(n:Int)=(l.length:Int)∧(s.2.length:Int)=s.1) (n:=l.length) ?_ ⟨by simp,by simp⟩;rintro n ⟨i,acc⟩ ⟨h1,h2⟩
 dsimp only at h1 h2;simp only[Zih];refine Zf (fun h=>?_) (fun h=>?_)
 ·refine XW (by omega) h fun x _=>?_
  rw[ZuG,Za];refine Zw (by omega) (Zb ⟨n-1,by omega,?_,?_⟩)
  ·dsimp only
   rw[wi _ (by omega)];omega
  ·dsimp only
   rw[wi _ (by omega)];simp
   omega
 ·refine Tot.out ?_
  unfold Zgf;exact(Ztk _).bind fun _ _=>Zb trivial
theorem ZmJ {b:Tapi_Block}(h:ZkR b=true):b.2.length≤256∧(∀ t∈b.2,Yq t=true)∧Zlq b=(Zkz b,0):=by
 classical
 unfold ZkR at h;have h:=of_decide_eq_true h;unfold Zlq at h ⊢;by_cases c1:256<b.2.length
 ·rw[if_pos c1] at h; simp at h
 rw[if_neg c1] at h ⊢;by_cases c2:∃ t∈b.2,¬ Yq t=true
 ·rw[if_pos c2] at h; simp at h
 rw[if_neg c2] at h ⊢;by_cases c3:100000<(Zkz b).length
 ·rw[if_pos c3] at h; simp at h
 rw[if_neg c3];exact⟨by omega,fun t ht=>Decidable.byContradiction fun c=>c2 ⟨t,ht,c⟩,rfl⟩
theorem Zbx {α ρ:Type}{step:Int→Option (Int ⊕ ρ)}{Q:ρ→Prop}(l:List α) (J:Nat→Prop) (hl:l.length≤1000000000) (h0:J 0)
  (h:∀ i (hi:i<l.length),J i→Tot (step (i:Int)) fun | .inl s=>s=((i+1:Nat):Int)∧J (i+1) | .inr r=>Q r)
  (he:J l.length→∃ r,step (l.length:Int)=some (.inr r)∧Q r):Tot (Ze step 0) Q:=by
 refine ZI (I:=fun(n:Nat) (s:Int)=>∃ i:Nat,s=i∧i+n=l.length∧J i) (n:=l.length) ?_ ⟨0,rfl,by simp,h0⟩;rintro n _ ⟨i,rfl,hi,hJ⟩
 by_cases hlt:i<l.length
 ·refine(h i hlt hJ).mono fun x hx=>?_
  cases x with
  | inl s=>exact⟨n-1,by omega,i+1,hx.1,by omega,hx.2⟩
  | inr r=>exact hx
 ·obtain rfl:i=l.length:=by omega
  obtain⟨r,hr,hq⟩:=he hJ;exact⟨.inr r,hr,hq⟩
theorem ZoK (ids:List (Arr 32)) (a:Arr 32) (hl:ids.length≤1000000):Tot (Zdb ids a) fun r=>-1≤r∧r<1000000:=by
 unfold Zdb;refine Zbx ids (fun _=>True) (by omega) trivial ?_ ?_
 ·intro i hi _
  simp only[ZfH];rw[if_pos (by omega),Zi hi];refine Zf (fun _=>Zb (by dsimp only; omega)) (fun _=>Zb ⟨Zu hi (by omega),trivial⟩)
 ·intro _
  simp only[ZfH];rw[if_neg (by omega)];exact⟨-1,rfl,by omega⟩
theorem Zqw {b:Tapi_Block}(hb:b.2.length≤256) (ht:∀ t∈b.2,t.2.1.length≤1000) (ids:List (Arr 32)) (hl:ids.length≤1000000):Tot (ZcK b ids) fun _=>True:=by
 unfold ZcK;refine Zbx b.2 (fun _=>True) (by omega) trivial ?_ ?_
 ·intro i hi _
  have h1:=ht _ (List.getElem_mem hi);simp only[Zea];rw[if_pos (by omega),Zi hi];refine Zbx b.2[i].2.1 (fun _=>True) (by omega) trivial ?_ ?_
  ·intro j hj _
   simp only[Zd9];rw[if_pos (by omega),Zi hj];refine(ZoK ids _ hl).bind fun y _=>Zf (fun _=>Zb (by trivial)) (fun _=>Zb ⟨Zu hj (by omega),trivial⟩)
  ·intro _
   simp only[Zd9];rw[if_neg (by omega)];exact⟨.inl ((i+1:Nat):Int),by simp only[Zcl]; rw[Zu hi (by omega)]; rfl,rfl,trivial⟩
 ·intro _
  simp only[Zea];rw[if_neg (by omega)];exact⟨false,rfl,trivial⟩
theorem Ztl {b:Tapi_Block}(hb:b.2.length≤256) (ht:∀ t∈b.2,t.2.1.length≤1000):Tot (Zeh b) fun _=>True:=by
 unfold Zeh;refine ZI (I:=fun(n:Nat) (s:Int×List Tapi_OutPoint)=>s.1+(n:Int)=(b.2.length:Int)∧0≤s.1∧(s.2.length:Int)≤s.1 * 1000) (n:=b.2.length) ?_ ⟨by simp,by simp,by simp⟩;rintro n ⟨i,acc⟩ ⟨h1,h2,h3⟩
 dsimp only at h1 h2 h3;simp only[ZhP];refine Zf (fun h=>?_) (fun h=>Tot.out (Zb trivial));refine XW h2 h fun t htm=>?_
 have h4:=ht t htm;refine ZI (I:=fun(m:Nat) (s:Int×List Tapi_OutPoint)=>s.1+(m:Int)=(t.2.1.length:Int)∧0≤s.1∧(s.2.length:Int)≤i * 1000+s.1) (n:=t.2.1.length) ?_ ⟨by simp,by simp,by simp; omega⟩;rintro m ⟨j,acc⟩ ⟨g1,g2,g3⟩
 dsimp only at g1 g2 g3;simp only[ZhO];refine Zf (fun hj=>?_) (fun hj=>?_)
 ·refine XW g2 hj fun x _=>?_
  refine Zbx acc (fun _=>True) (by omega) trivial ?_ ?_
  ·intro k hk _
   simp only[ZfI];rw[if_pos (by omega),YS hk,Zis hk];exact Zf (fun _=>Zb (by trivial)) (fun _=>Zb ⟨Zu hk (by omega),trivial⟩)
  ·intro _
   simp only[ZfI];rw[if_neg (by omega)];simp only[Zb4];rw[Zj (by omega),wi _ (by omega)];exact⟨.inl (j+1,acc++[x.1]),rfl,m-1,by omega,by dsimp only; omega,by dsimp only; omega,by simp; omega⟩
 ·refine Tot.out (Zb ⟨n-1,by omega,?_,?_,?_⟩)
  ·dsimp only
   rw[wi _ (by omega)];omega
  ·dsimp only
   rw[wi _ (by omega)];omega
  ·dsimp only
   rw[wi _ (by omega)];omega
structure Zr6 (b:Tapi_Block):Prop where
 fits:ZkR b=true
 ne:b.2≠[]
 cb:∀ i (h:i<b.2.length),cbS b.2[i]=decide (i=0)
 chk:∀ t∈b.2,ZgN t=0
structure Zn5 (b:Tapi_Block):Prop extends Zr6 b where
 ok:ZbT b=some 0
theorem Zp4 (b:Tapi_Block):Tot (ZbT b) fun r=>r=0→Zr6 b:=by
 unfold ZbT;rw[ZuD,Za];refine Zf (fun _=>Zb (by simp)) (fun hf=>?_);have hf:ZkR b=true:=by simpa using hf
 obtain⟨hb,hft,-⟩:=ZmJ hf;have hin:∀ t∈b.2,t.2.1.length≤1000:=fun t ht=>by have:=(Ziw (hft t ht)).1; omega
 refine Zf (fun _=>Zb (by simp)) (fun hne=>?_);have hne':b.2≠[]:=by rintro h; rw[h] at hne; simp at hne
 refine Zbx b.2 (fun n=>∀ i (h:i<b.2.length),i<n→cbS b.2[i]=decide (i=0)) (by omega) (fun i _ h=>absurd h (by omega)) ?_ ?_
 ·intro i hi hJ
  simp only[ZfK];rw[if_pos (by omega),Zi hi,Zl3,Za];refine Zf (fun _=>Zb (by simp)) (fun hc=>Zb ⟨Zu hi (by omega),fun k hk hk2=>?_⟩);by_cases e:k=i
  ·subst e
   have hc:(cbS b.2[k] == decide ((k:Int)=0))=true:=by simpa using hc
   have:=eq_of_beq hc;rw[this]
   congr 1
   simp
  ·exact hJ k hk (by omega)
 ·intro hcb
  simp only[ZfK];rw[if_neg (by omega)];refine Tot.inr ?_;unfold Zb7;refine Zbx b.2 (fun n=>∀ i (h:i<b.2.length),i<n→ZgN b.2[i]=0) (by omega) (fun i _ h=>absurd h (by omega)) ?_ ?_
  ·intro i hi hJ
   simp only[ZfJ];rw[if_pos (by omega),Zi hi,ZoB,Za];refine Zf (fun hc=>Zb (by intro h; exact absurd h hc)) (fun hc=>Zb ⟨Zu hi (by omega),fun k hk hk2=>?_⟩);by_cases e:k=i
   ·subst e
    simpa using hc
   ·exact hJ k hk (by omega)
  ·intro hck
   have hB:Zr6 b:=⟨hf,hne',fun i h=>hcb i h h,fun t ht=>by
    obtain⟨i,hi,rfl⟩:=List.getElem_of_mem ht
    exact hck i hi hi⟩
   simp only[ZfJ];rw[if_neg (by omega)];refine Tot.inr (Tot.mono (P:=fun _=>True) ?_ fun _ _ _=>hB);unfold Zb6;refine ZI (I:=fun(n:Nat) (s:Int×List (Arr 32))=>s.1+(n:Int)=(b.2.length:Int)∧(s.2.length:Int)=s.1) (n:=b.2.length) ?_ ⟨by simp,by simp⟩;rintro n ⟨i,ids⟩ ⟨h1,h2⟩
   dsimp only at h1 h2;simp only[ZhQ];refine Zf (fun h=>?_) (fun h=>?_)
   ·refine XW (by omega) h fun x _=>?_
    rw[Zp3,Za];refine(ZoK ids _ (by omega)).bind fun y _=>Zf (fun _=>Zb trivial) (fun _=>?_)
    refine Zw (by omega) (Zb ⟨n-1,by omega,?_,?_⟩)
    ·dsimp only
     rw[wi _ (by omega)];omega
    ·dsimp only
     rw[wi _ (by omega)];simp
     omega
   ·refine Tot.out ?_
    unfold Zb5;refine(Zqw hb hin ids (by omega)).bind fun y _=>Zf (fun _=>Zb trivial) (fun _=>?_)
    refine(Ztl hb hin).bind fun y _=>Zf (fun _=>Zb trivial) (fun _=>?_)
    exact(ZnE b.2 (by omega)).bind fun y _=>Zf (fun _=>Zb trivial) (fun _=>Zb trivial)
theorem Zqx (b:Tapi_Block):Tot (ZbT b) fun r=>r=0→Zn5 b:=by
 obtain⟨r,hr,h⟩:=Zp4 b;exact⟨r,hr,fun h0=>⟨h h0,h0 ▸ hr⟩⟩
end
section
set_option maxRecDepth 100000
structure PrmOk (p:Tapi_Params):Prop where
 bits:M32 p.1.2.2.2.2.1
 lim:dg p.2.1
 win:1≤p.2.2.1∧p.2.2.1≤4096
 spa:1≤p.2.2.2.1∧p.2.2.2.1≤1048576
 cps:p.2.2.2.2.2.2.1=[]
 sub:0≤p.2.2.2.2.2.2.2.1∧p.2.2.2.2.2.2.2.1≤2100000000000000
 hal:1≤p.2.2.2.2.2.2.2.2.1∧p.2.2.2.2.2.2.2.2.1≤16777216
theorem Zd3 {p:Tapi_Params}(h:PrmOk p):Tot (Xq p) fun _=>True:=by
 unfold Xq;refine(Zkd _).bind fun y _=>Zf (fun _=>Zb trivial) (fun _=>Zf (fun _=>Zb trivial) (fun _=>?_))
 refine Zbx ([]:List Nat) (fun _=>True) (by simp) trivial (fun i hi=>absurd hi (by simp)) fun _=>?_
 simp only[ZhM];rw[h.cps,if_neg (by simp)]
 have hk:Tot (ZfG p) fun _=>True:=by
  unfold ZfG;refine(Zlt h.bits).bind fun y _=>?_
  have h5:Tot (if y.2=0 then(Xn y.1 p.2.1).bind fun y17=>some (decide (y17≤0)) else some false) fun _=>True :=
   Zf (fun _=>(ZjJ _ _).bind fun z _=>Zb trivial) (fun _=>Zb trivial)
  exact h5.bind fun z _=>Zb trivial
 obtain⟨b,hb,-⟩:=hk;rw[hb];exact⟨b,rfl,trivial⟩
theorem ZmK {p:Tapi_Params}(h:PrmOk p){n:Int}(hn:n≤100000000):Tot (Zbt p n) fun r=>0≤r∧r≤2100000000000000:=by
 unfold Zbt;refine(Zd3 h).bind fun y _=>Zf (fun _=>Zb (by omega)) (fun h0=>?_)
 have hn0:0≤n:=by
  apply Decidable.byContradiction
  intro c;exact h0 (.inr (by omega))
 have hh:=h.hal;have hs:=h.sub;refine Zw (by omega) ?_;have e:n.tdiv p.2.2.2.2.2.2.2.2.1=n / p.2.2.2.2.2.2.2.2.1:=ZeW hn0 _;have e2:0≤n / p.2.2.2.2.2.2.2.2.1:=Int.ediv_nonneg hn0 (by omega);have e3:n / p.2.2.2.2.2.2.2.2.1≤n:=Int.ediv_le_self _ hn0;rw[e,wi _ (by omega)];generalize n / p.2.2.2.2.2.2.2.2.1=k at e2 e3;refine ZI (I:=fun(m:Nat) (s:Int×Int)=>(0≤s.1∧s.1≤2100000000000000)∧s.2≤(m:Int)∧0≤s.2∧s.2≤100000000) (n:=k.toNat) ?_ ⟨hs,by dsimp only; omega,e2,by dsimp only; omega⟩;rintro m ⟨s,j⟩ ⟨h1,h2,h3,h4⟩
 dsimp only at h1 h2 h3 h4;simp only[Lref23_Subsidy_s1];refine Zf (fun hc=>?_) (fun hc=>Tot.out (Zb h1));rw[ZeW h1.1,wi (s / 2) (by omega),wi (j-1) (by omega)];exact Zb ⟨m-1,by omega,by dsimp only; omega,by dsimp only; omega,by dsimp only; omega,by dsimp only; omega⟩
theorem ZoL (t:Tapi_Tx) (ht:t.2.1.length≤1000) (n:Int):Tot (Zaj t n) fun _=>True:=by
 unfold Zaj;refine Zf (fun _=>Zb trivial) (fun _=>?_);refine Zbx t.2.1 (fun _=>True) (by omega) trivial ?_ ?_
 ·intro i hi _
  simp only[ZfL];rw[if_pos (by omega),Zi hi];exact Zf (fun _=>Zb (by trivial)) (fun _=>Zb ⟨Zu hi (by omega),trivial⟩)
 ·intro _
  simp only[ZfL];rw[if_neg (by omega)];exact⟨true,rfl,trivial⟩
theorem ZmL (a b:Tapi_OutPoint):Tot (Xd a b) fun _=>True:=by
 unfold Xd;refine ZI (I:=fun(n:Nat) (s:Int)=>s+(n:Int)=32∧0≤s) (n:=32) ?_ ⟨by omega,by omega⟩;rintro n s ⟨h1,h2⟩
 simp only[Zgr];refine Zf (fun h=>?_) (fun h=>?_)
 ·refine Xe h2 h fun j _ hj=>Zf (fun _=>Zb trivial) (fun _=>Zf (fun _=>Zb trivial) (fun _=>?_))
  exact Zb ⟨n-1,by omega,by rw[wi _ (by omega)]; omega,by rw[wi _ (by omega)]; omega⟩
 ·refine Tot.out ?_
  unfold Zgq;exact Zf (fun _=>Zb trivial) (fun _=>Zf (fun _=>Zb trivial) (fun _=>Zb trivial))
theorem Ztm (l:Tapi_Ledger) (hl:l.2.2.length≤1000000000):Tot (Zda l) fun _=>True:=by
 unfold Zda;refine Zf (fun _=>Zb trivial) (fun h=>?_);refine ZI (I:=fun(n:Nat) (s:Int×Int)=>s.2+(n:Int)=(l.2.2.length:Int)∧0≤s.2) (n:=l.2.2.length) ?_ ⟨by simp,by simp⟩;rintro n ⟨s,i⟩ ⟨h1,h2⟩
 dsimp only at h1 h2;simp only[ZhN];refine Zf (fun hi=>?_) (fun hi=>Tot.out (Zb trivial));refine XW h2 hi fun x _=>?_
 have h5:Tot (if 0<i then(idx (l.2.2) (IntKind.i64.wrap (i-1))).bind fun x18=>(Xd x18.1 x.1).bind fun y19=>some (decide (0≤y19)) else some false) fun _=>True:=by
  refine Zf (fun h0=>?_) (fun _=>Zb trivial);rw[wi _ (by omega)];exact XW (by omega) (by omega) fun y _=>(ZmL _ _).bind fun z _=>Zb trivial
 refine h5.bind fun z _=>Zf (fun _=>Zb trivial) (fun _=>Zf (fun _=>Zb trivial) (fun _=>Zf (fun _=>Zb trivial) (fun _=>?_)))
 exact Zb ⟨n-1,by omega,by dsimp only; rw[wi (i+1) (by omega)]; omega,by dsimp only; rw[wi (i+1) (by omega)]; omega⟩
theorem Zm8 (l:List Tapi_Coin) (o:Tapi_OutPoint) (hl:l.length≤1000000000):Tot (Zcz l o) fun r=>(r<0∧∀ c∈l,c.1≠o)∨∃ i:Nat,∃ h:i<l.length,r=(i:Int)∧l[i].1=o:=by
 unfold Zcz;refine Zbx l (fun n=>∀ i (h:i<l.length),i<n→l[i].1≠o) hl (fun i _ h=>absurd h (by omega)) ?_ ?_
 ·intro i hi hJ
  simp only[Zgg];rw[if_pos (by omega),Zi hi];refine Zf (fun hc=>Zb (.inr ⟨i,hi,rfl,Prod.ext hc.1 hc.2⟩)) (fun hc=>Zb ⟨Zu hi (by omega),fun k hk hk2=>?_⟩);by_cases e:k=i
  ·subst e
   exact fun c=>hc ⟨congrArg Prod.fst c,congrArg Prod.snd c⟩
  ·exact hJ k hk (by omega)
 ·intro hJ
  simp only[Zgg];rw[if_neg (by omega)];refine⟨-1,rfl,.inl ⟨by omega,fun c hc=>?_⟩⟩;obtain⟨i,hi,rfl⟩:=List.getElem_of_mem hc;exact hJ i hi hi
theorem ZmM (c:Tapi_Coin) (h:c.2.1.2.length≤1000000):ZaV c=some c:=by
 unfold ZaV;rw[Zp0 _ (by omega),Za]
end
section
set_option maxRecDepth 100000
def ScrM (s:List Int):Prop:=∃ j,(1≤j∧j≤6)∧s=[1,1,j,5]
def Zjz (c:Tapi_Coin):Prop:=Byt c.1.1.l∧ScrM c.2.1.2
theorem ScrM.len {s:List Int}(h:ScrM s):s.length=4:=by obtain⟨j,_,rfl⟩:=h; rfl
theorem ScrM.byt {s:List Int}(h:ScrM s):Byt s:=by
 obtain⟨j,hj,rfl⟩:=h;intro x hx;simp at hx
 omega
theorem ZkA (t:Tapi_Tx) (ht:t.2.2.1.length≤1000) (h:Int):Tot (ZaC t h) fun r=>r.length=t.2.2.1.length∧∀ c∈r,c.1.1=idS t∧∃ o∈t.2.2.1,c.2.1=o:=by
 unfold ZaC;rw[Zp3,Za];refine ZI (I:=fun(n:Nat) (s:Int×List Tapi_Coin)=>s.1+(n:Int)=(t.2.2.1.length:Int)∧(s.2.length:Int)=s.1∧∀ c∈s.2,c.1.1=idS t∧∃ o∈t.2.2.1,c.2.1=o) (n:=t.2.2.1.length) ?_ ⟨by simp,by simp,by simp⟩;rintro n ⟨i,acc⟩ ⟨h1,h2,h3⟩
 dsimp only at h1 h2 h3;simp only[Zgt];refine Zf (fun hi=>?_) (fun hi=>?_)
 ·refine XW (by omega) hi fun o ho=>?_
  rw[Zl3,Za];refine Zw (by omega) (Zb ⟨n-1,by omega,?_,?_,?_⟩)
  ·dsimp only
   rw[wi _ (by omega)];omega
  ·dsimp only
   rw[wi _ (by omega)];simp
   omega
  ·intro c hc
   rcases List.mem_append.1 hc with hc | hc
   ·exact h3 c hc
   ·obtain rfl:=List.mem_singleton.1 hc
    exact⟨rfl,o,ho,rfl⟩
 ·exact Tot.out (Zb ⟨by omega,h3⟩)
theorem ZuH {l:List Tapi_Coin}{c:Tapi_Coin}(hl:l.length≤1000000) (hs:c.2.1.2.length≤1000000):Tot (ZbE l c) fun r=>r.length=l.length+1∧∀ x∈r,x∈l∨x=c:=by
 unfold ZbE;refine ZI (I:=fun(n:Nat) (s:Int×List Tapi_Coin)=>s.1+(n:Int)=(l.length:Int)∧0≤s.1∧(s.2.length:Int)≤s.1∧∀ x∈s.2,x∈l) (n:=l.length) ?_ ⟨by simp,by simp,by simp,by simp⟩;rintro n ⟨i,acc⟩ ⟨h1,h2,h3,h4⟩
 dsimp only at h1 h2 h3 h4;simp only[Zij,ZcM];refine Zf (fun hi=>?_) (fun hi=>?_)
 ·refine XW h2 hi fun x hx=>?_
  refine(ZmL _ _).bind fun y _=>Zf (fun _=>?_) (fun _=>?_)
  ·refine Zw (by omega) (Zb ⟨n-1,by omega,?_,?_,?_,?_⟩)
   ·dsimp only
    rw[wi _ (by omega)];omega
   ·dsimp only
    rw[wi _ (by omega)];omega
   ·dsimp only
    rw[wi _ (by omega)];simp
    omega
   ·intro z hz
    rcases List.mem_append.1 hz with hz | hz
    ·exact h4 z hz
    ·obtain rfl:=List.mem_singleton.1 hz
     exact hx
  ·refine Zb ⟨n-1,by omega,?_,?_,?_,h4⟩
   ·dsimp only
    rw[wi _ (by omega)];omega
   ·dsimp only
    rw[wi _ (by omega)];omega
   ·dsimp only
    rw[wi _ (by omega)];omega
 ·refine Tot.out ?_
  unfold Zii;rw[ZmM c hs,Za];refine Zw (by omega) (Zw (by omega) (Zw (by simp; omega) (Zb ⟨?_,?_⟩)))
  ·simp
   omega
  ·intro x hx
   simp only[List.append_assoc,List.mem_append,List.mem_singleton] at hx;rcases hx with hx | hx | hx
   ·exact .inl (h4 x hx)
   ·exact .inr hx
   ·exact .inl (List.mem_of_mem_drop hx)
theorem Ztn {l:List Tapi_Coin}{t:Tapi_Tx}(hl:l.length≤200000) (ht:t.2.2.1.length≤1000) (hs:∀ o∈t.2.2.1,o.2.length≤1000000) (h:Int):Tot (Zgh l t h) fun r=>r.2=0→r.1.length=l.length+t.2.2.1.length∧∀ c∈r.1,c∈l∨c.1.1=idS t∧∃ o∈t.2.2.1,c.2.1=o:=by
 unfold Zgh;refine(ZkA t ht h).bind fun y hy=>?_
 refine Zbx y (fun _=>True) (by omega) trivial ?_ ?_
 ·intro i hi _
  simp only[Zg2];rw[if_pos (by omega),YS hi,Zis hi];refine(Zm8 l _ (by omega)).bind fun z _=>Zf (fun _=>Zb (by intro h; simp at h)) (fun _=>Zb ⟨Zu hi (by omega),trivial⟩)
 ·intro _
  simp only[Zg2];rw[if_neg (by omega)];refine Tot.inr ?_;unfold Ze9;refine(ZkA t ht h).bind fun z hz=>?_
  refine ZI (I:=fun(n:Nat) (s:List Tapi_Coin×Int)=>s.2+(n:Int)=(z.length:Int)∧0≤s.2∧(s.1.length:Int)=l.length+s.2∧∀ c∈s.1,c∈l∨c∈z) (n:=z.length) ?_ ⟨by simp,by simp,by simp,fun c hc=>.inl hc⟩;rintro n ⟨acc,i⟩ ⟨h1,h2,h3,h4⟩
  dsimp only at h1 h2 h3 h4;simp only[Zi8];refine Zf (fun hi=>?_) (fun hi=>?_)
  ·refine Xe h2 hi fun j hj hj2=>ZdC hj2 fun x hx=>?_
   have hxz:=List.mem_of_getElem? hx;obtain⟨_,o,ho,hxo⟩:=hz.2 x hxz;refine(ZuH (l:=acc) (c:=x) (by omega) (by rw[hxo]; exact hs o ho)).bind fun r hr=>Zb ⟨n-1,by omega,?_,?_,?_,?_⟩
   ·dsimp only
    rw[wi _ (by omega)];omega
   ·dsimp only
    rw[wi _ (by omega)];omega
   ·dsimp only
    rw[wi _ (by omega)];omega
   ·intro c hc
    rcases hr.2 c hc with hc | rfl
    ·exact h4 c hc
    ·exact .inr hxz
  ·refine Tot.out (Zb fun _=>⟨by dsimp only; omega,fun c hc=>?_⟩)
   rcases h4 c hc with hc | hc
   ·exact .inl hc
   ·exact .inr (hz.2 c hc)
theorem Zto {p:Tapi_Params}{l:List Tapi_Coin}{t:Tapi_Tx}(hl:l.length≤1000000) (hs:∀ c∈l,c.2.1.2.length≤1000000) (ht:t.2.1.length≤1000) (h:Int):Tot (Zej p l t h) fun r=>r.2=0→r.1.length=t.2.1.length∧(∀ c∈r.1,c∈l)∧∀ j (h1:j<r.1.length) (h2:j<t.2.1.length),r.1[j].1=t.2.1[j].1:=by
 unfold Zej;refine ZI (I:=fun(n:Nat) (s:Int×List Tapi_Coin)=>s.1+(n:Int)=(t.2.1.length:Int)∧(s.2.length:Int)=s.1∧(∀ c∈s.2,c∈l)∧∀ j (h1:j<s.2.length) (h2:j<t.2.1.length),s.2[j].1=t.2.1[j].1) (n:=t.2.1.length) ?_ ⟨by simp,by simp,by simp,fun j h1=>absurd h1 (by simp)⟩;rintro n ⟨i,acc⟩ ⟨h1,h2,h3,h4⟩
 dsimp only at h1 h2 h3 h4;simp only[ZhR];refine Zf (fun hi=>?_) (fun hi=>?_)
 ·obtain⟨k,rfl⟩:=Int.eq_ofNat_of_zero_le (show 0≤i by omega)
  rw[Zi (by omega)];refine(Zm8 l _ (by omega)).bind fun y hy=>Zf (fun _=>Zb (by intro h; simp at h)) (fun hneg=>?_)
  rcases hy with ⟨hy,_⟩ | ⟨q,hq,rfl,hq2⟩
  ·exact absurd hy hneg
  rw[Zi hq,ZmM _ (hs _ (List.getElem_mem hq)),Za];refine Zw (by omega) (Zb ⟨n-1,by omega,?_,?_,?_,?_⟩)
  ·dsimp only
   rw[wi _ (by omega)];omega
  ·dsimp only
   rw[wi _ (by omega)];simp
   omega
  ·intro c hc
   rcases List.mem_append.1 hc with hc | hc
   ·exact h3 c hc
   ·obtain rfl:=List.mem_singleton.1 hc
    exact List.getElem_mem hq
  ·intro j h1' h2'
   dsimp only at h1' ⊢;by_cases hj:j<acc.length
   ·rw[List.getElem_append_left hj]
    exact h4 j hj h2'
   ·obtain rfl:j=acc.length:=by simp at h1'; omega
    obtain rfl:acc.length=k:=by omega
    simpa using hq2
 ·refine Tot.out ?_
  unfold ZdK;refine Zbx acc (fun _=>True) (by omega) trivial ?_ ?_
  ·intro k hk _
   simp only[ZfN];rw[if_pos (by omega),YS hk,Zis hk];exact Zf (fun _=>Zb (by intro h; simp at h)) (fun _=>Zb ⟨Zu hk (by omega),trivial⟩)
  ·intro _
   simp only[ZfN];rw[if_neg (by omega)];exact⟨(acc,0),rfl,fun _=>⟨by dsimp only; omega,h3,h4⟩⟩
theorem Zr7 {l:List Tapi_Coin}{i:Nat}(hi:i<l.length) (hl:l.length≤1000000):ZcL l (i:Int)=some (l.take i++l.drop (i+1)):=by
 unfold ZcL;rw[Zj (by omega),Zj (by simp; omega),wi _ (by omega),Zj (by omega),Zj (by simp; omega)];rw[show((i:Int)+1).toNat=i+1 by omega,Int.toNat_natCast]
theorem ZoM (l:List Tapi_Coin) (hl:l.length≤1000000000):Tot (Zdc l) fun _=>True:=by
 unfold Zdc;refine ZI (I:=fun(n:Nat) (s:Int×Int)=>s.2+(n:Int)=(l.length:Int)∧0≤s.2) (n:=l.length) ?_ ⟨by simp,by simp⟩;rintro n ⟨s,i⟩ ⟨h1,h2⟩
 dsimp only at h1 h2;simp only[ZhT];refine Zf (fun hi=>?_) (fun hi=>Tot.out (Zb trivial));refine XW h2 hi fun x _=>Zb ⟨n-1,by omega,?_,?_⟩
 ·dsimp only
  rw[wi (i+1) (by omega)];omega
 ·dsimp only
  rw[wi (i+1) (by omega)];omega
theorem Ztp {p:Tapi_Params}(hp:PrmOk p) (l:Tapi_Ledger) (hl:l.2.2.length≤1000000000) (b:Tapi_Block):Tot (Zei p l b) fun r=>r=0→Zn5 b:=by
 unfold Zei;refine(Zd3 hp).bind fun y _=>?_
 have h5:Tot (if ¬ (y=true) then some false else(Zda l).bind fun y2=>some (!(y2))) fun _=>True :=
  Zf (fun _=>Zb trivial) (fun _=>(Ztm l hl).bind fun z _=>Zb trivial)
 refine h5.bind fun z _=>Zf (fun _=>Zb (by simp)) (fun _=>Zf (fun _=>Zb (by simp)) (fun _=>Zf (fun _=>Zb (by simp)) (fun _=>?_)))
 refine(Zqx b).bind fun e he=>Zf (fun hne=>Zb (by intro h; exact absurd h hne)) (fun h0=>?_)
 have hB:=he (Decidable.byContradiction h0);have hlen:0<b.2.length:=List.length_pos_iff.2 hB.ne;refine ZdC hlen fun x hx=>?_
 have hx0:b.2[0]=x:=by rw[List.getElem?_eq_getElem hlen] at hx; exact Option.some.inj hx
 have hcb:=hB.cb 0 hlen;rw[hx0] at hcb;have hcb:cbS x=true:=by simpa using hcb
 have hin:x.2.1.length=1:=by
  unfold cbS at hcb;split at hcb
  ·rename_i h; rw[h]; rfl
  ·cases hcb
 refine ZdC (by omega) fun q _=>Zf (fun _=>Zb (by simp)) (fun _=>?_)
 refine(ZoL x (by omega) _).bind fun r _=>Zf (fun _=>Zb (by simp)) (fun _=>Zb fun _=>hB)
end
section
set_option maxRecDepth 100000
def dg8 (a:Arr 8):Prop:=∀ i,i<8→M64 (a.at i)
theorem dg8_zero:dg8 (zA 8):=by
 intro i hi;have:i=0∨i=1∨i=2∨i=3∨i=4∨i=5∨i=6∨i=7:=by omega
 rcases this with rfl | rfl | rfl | rfl | rfl | rfl | rfl | rfl <;> exact⟨by decide,by decide⟩
theorem Zq5 {a:Arr 8}(h:dg8 a){j:Nat}(hj:j<8){x:Int}(hx:M64 x):dg8 (a.put j x):=by
 intro i hi;by_cases e:j=i
 ·subst e
  rw[Arr.at_put _ hi];exact hx
 ·rw[Arr.at_put_ne _ e]
  exact h i hi
theorem Zq6 {l:List Int}(hl:l.length=4) (h:∀ x∈l,M64 x):dg ((zA 4).over l):=by
 intro i hi
 have e:(zA 4).over l=⟨l,hl⟩:=by
  unfold Arr.over;have h4:(zA 4).l.length=4:=(zA 4).hl
  congr 1
  rw[List.take_of_length_le (by omega),List.drop_of_length_le (by omega),List.append_nil]
 rw[e];have:(⟨l,hl⟩:Arr 4).at i=l[i]'(by omega):=by simp[Arr.at,hl,hi]
 rw[this];exact h _ (List.getElem_mem _)
theorem ZvM {a:Arr 8}(h:dg8 a):∀ x∈a.l,M64 x:=by
 intro x hx;obtain⟨i,hi,rfl⟩:=List.getElem_of_mem hx;have hl:=a.hl;have:=h i (by omega);rw[Arr.at,List.getD_eq_getElem?_getD,List.getElem?_eq_getElem hi] at this;exact this
theorem ZvN {a b:Arr 4}(ha:dg a) (hb:dg b):Tot (Zgi a b) fun r=>dg r.1∧dg r.2:=by
 unfold Zgi;refine ZI (I:=fun(n:Nat) (s:Int×Arr 8)=>s.1+(n:Int)=4∧0≤s.1∧dg8 s.2) (n:=4) ?_ ⟨by simp,by simp,dg8_zero⟩;rintro n ⟨i,w⟩ ⟨h1,h2,h3⟩
 dsimp only at h1 h2 h3;simp only[Zja];refine Zf (fun h=>?_) (fun h=>?_)
 ·refine ZI (I:=fun(k:Nat) (s:Int×Int×Arr 8)=>s.2.1+(k:Int)=4∧0≤s.2.1∧M64 s.1∧dg8 s.2.2) (n:=4) ?_ ⟨by simp,by simp,⟨by simp,by simp⟩,h3⟩
  rintro k ⟨c,j,w⟩ ⟨k1,k2,k3,k4⟩
  dsimp only at k1 k2 k3 k4;simp only[Zi9];refine Zf (fun hj=>?_) (fun hj=>?_)
  ·refine Xe h2 h fun p hp hp4=>Xe k2 hj fun q hq hq4=>?_
   refine(show Tot (XP (a.at p) (b.at q)) fun r=>M64 r.1∧M64 r.2 from Zb ⟨ZgQ _,ZgQ _⟩).bind fun y hy=>?_
   rw[wi (i+j) (by omega)];refine Xe (by omega) (by omega) fun z hz hz8=>?_
   refine(Zma (k4 z hz8) hy.2 (by omega)).bind fun u hu=>?_
   refine(Zma hu.1 k3 (by omega)).bind fun v hv=>?_
   refine Zb ⟨k-1,by omega,?_,?_,ZgQ _,Zq5 k4 hz8 hv.1⟩
   ·dsimp only
    rw[wi (j+1) (by omega)];omega
   ·dsimp only
    rw[wi (j+1) (by omega)];omega
  ·refine Tot.out ?_
   unfold Zfa;rw[wi (i+4) (by omega)];refine Xe (by omega) (by omega) fun z hz hz8=>Zb ⟨n-1,by omega,?_,?_,Zq5 k4 hz8 k3⟩
   ·dsimp only
    rw[wi (i+1) (by omega)];omega
   ·dsimp only
    rw[wi (i+1) (by omega)];omega
 ·refine Tot.out (Zb ?_)
  have hl:=w.hl;have hm:=ZvM h3;exact⟨Zq6 (by rw[List.length_drop,hl]) fun x hx=>hm x (List.mem_of_mem_drop hx),Zq6 (by rw[List.length_take,hl]; rfl) fun x hx=>hm x (List.mem_of_mem_take hx)⟩
theorem Ztq {x y c:Int}(hx:M64 x) (hy:M64 y) (hc:0≤c∧c≤1):Tot (Zav x y c) fun r=>M64 r.1∧0≤r.2∧r.2≤1:=by
 unfold Zav;refine Zw (by omega) (Zb ⟨by simp only; omega,?_⟩);simp only;split <;> omega
theorem ZvO {a b:Arr 4}(ha:dg a) (hb:dg b):Tot (Zge a b) fun r=>dg r.1:=by
 unfold Zge;refine ZI (I:=fun(n:Nat) (s:Int×Int×Arr 4)=>s.2.1+(n:Int)=4∧0≤s.2.1∧(0≤s.1∧s.1≤1)∧dg s.2.2) (n:=4) ?_ ⟨by simp,by simp,by simp,dg_zero⟩;rintro n ⟨c,i,r⟩ ⟨h1,h2,h3,h4⟩
 dsimp only at h1 h2 h3 h4;simp only[Zi4];refine Zf (fun h=>?_) (fun h=>?_)
 ·refine Xe h2 h fun j hj hj4=>?_
  refine(Ztq (ha j hj4) (hb j hj4) h3).bind fun y hy=>Zb ⟨n-1,by omega,?_,?_,hy.2,Zfc h4 hj4 hy.1⟩
  ·dsimp only
   rw[wi _ (by omega)];omega
  ·dsimp only
   rw[wi _ (by omega)];omega
 ·exact Tot.out (Zb h4)
theorem ZvP {a b c:Arr 4}(ha:dg a) (hb:dg b) (hc:dg c):Tot (Zgj a b c) fun r=>dg r.1:=by
 unfold Zgj;refine(ZjJ _ _).bind fun y _=>Zf (fun _=>Zb dg_zero) (fun _=>?_)
 refine ZI (I:=fun(n:Nat) (s:Int×Arr 4×Arr 4)=>s.1+1=(n:Int)∧s.1≤255∧dg s.2.1∧dg s.2.2) (n:=256) ?_ ⟨by simp,by simp,dg_zero,ha⟩;rintro n ⟨i,q,r⟩ ⟨h1,h2,h3,h4⟩
 dsimp only at h1 h2 h3 h4;simp only[Zjc];refine Zf (fun h=>?_) (fun h=>Tot.out (Zb h3));refine(ZjI r (by omega) (by omega)).bind fun o _=>(Zq3 h4 h4).bind fun s hs=>(ZjI b h (by omega)).bind fun t _=>?_
 have key:∀ p,dg p→Tot (Zdz o c i q p) (Nx (fun(n:Nat) (s:Int×Arr 4×Arr 4)=>s.1+1=(n:Int)∧s.1≤255∧dg s.2.1∧dg s.2.2) (fun r=>dg r.1) n):=by
  intro p hp;unfold Zdz
  have h5:Tot (if o=true then some false else(Xn p c).bind fun y45=>some (decide (0≤y45))) fun _=>True :=
   Zf (fun _=>Zb trivial) (fun _=>(ZjJ _ _).bind fun z _=>Zb trivial)
  have nxt:∀ q' p',dg q'→dg p'→Tot (Zfb i q' p') (Nx (fun(n:Nat) (s:Int×Arr 4×Arr 4)=>s.1+1=(n:Int)∧s.1≤255∧dg s.2.1∧dg s.2.2) (fun r=>dg r.1) n):=by
   intro q' p' hq hp';refine Zb ⟨n-1,by omega,?_,?_,hq,hp'⟩
   ·dsimp only
    rw[wi (i-1) (by omega)];omega
   ·dsimp only
    rw[wi (i-1) (by omega)];omega
  refine h5.bind fun z _=>Zf (fun _=>?_) (fun _=>nxt q p h3 hp)
  refine(ZvO hp hc).bind fun v hv=>?_
  rw[ZeW h,Zbw h,wi (i / 64) (by omega)];exact Xe (by omega) (by omega) fun j hj hj4=>Zw (by omega) (nxt _ _ (Zfc h3 hj4 (Zh2 _ _ _)) hv)
 exact Zf (fun _=>key _ (Zfc hs (by omega) (Zh2 _ _ _))) (fun _=>key _ hs)
end
section
set_option maxRecDepth 100000
def sm (a:Arr 4) (k:Nat):Prop:=0≤a.at 0∧a.at 0<2 ^ k∧a.at 1=0∧a.at 2=0∧a.at 3=0
theorem Zq7 (k:Nat):sm (zA 4) k:=⟨by decide,Int.pow_pos (by decide),by decide,by decide,by decide⟩
theorem Zq8 {a:Arr 4}{k m:Nat}(h:sm a k) (hk:k≤m):sm a m:=by
 obtain⟨h1,h2,h3⟩:=h;exact⟨h1,by have:(2:Int) ^ k≤2 ^ m:=(by exact_mod_cast Nat.pow_le_pow_right (n:=2) (by decide) hk); omega,h3⟩
theorem ZoN (x:Int):IntKind.u64.wrap x=x % 18446744073709551616:=by
 have:=ZgQ x;unfold IntKind.wrap IntKind.bits;simp
theorem Zxx {x:Int}{k:Nat}(hk:k≤16) (h0:0≤x) (h1:x<2 ^ k):0≤bits .or .u64 x (IntKind.u64.wrap (1 * 2 ^ k))∧bits .or .u64 x (IntKind.u64.wrap (1 * 2 ^ k))<2 ^ (k+1):=by
 obtain⟨m,rfl⟩:=Int.eq_ofNat_of_zero_le h0;have hm:m<2 ^ k:=by exact_mod_cast h1
 have hp:(2:Nat) ^ k≤65536:=Nat.pow_le_pow_right (by decide) hk;have hp1:(2:Nat) ^ (k+1)≤131072:=Nat.pow_le_pow_right (n:=2) (by decide) (show k+1≤17 by omega)
 have e0:IntKind.u64.wrap (1 * 2 ^ k)=((2 ^ k:Nat):Int):=by
  rw[Int.one_mul,ZoN,show(2:Int) ^ k=((2 ^ k:Nat):Int) from(Int.natCast_pow 2 k).symm];generalize (2:Nat) ^ k=z at hp ⊢;omega
 rw[e0]
 have e1:bits .or .u64 (m:Int) ((2 ^ k:Nat):Int)=((m ||| 2 ^ k:Nat):Int):=by
  show IntKind.u64.wrap ((BitVec.ofInt 64 (m:Int) ||| BitVec.ofInt 64 ((2 ^ k:Nat):Int)).toNat:Int)=_
  have q1:(BitVec.ofInt 64 (m:Int)).toNat=m:=by
   simp only[BitVec.toNat_ofInt];omega
  have q2:(BitVec.ofInt 64 ((2 ^ k:Nat):Int)).toNat=2 ^ k:=by
   simp only[BitVec.toNat_ofInt];generalize (2:Nat) ^ k=z at hp ⊢;omega
  rw[BitVec.toNat_or,q1,q2,ZoN];have:m ||| 2 ^ k<2 ^ (k+1):=Nat.or_lt_two_pow (by rw[Nat.pow_succ]; omega) (by rw[Nat.pow_succ]; have:=Nat.two_pow_pos k; omega)
  generalize m ||| 2 ^ k=z at this ⊢
  omega
 rw[e1];have:m ||| 2 ^ k<2 ^ (k+1):=Nat.or_lt_two_pow (by rw[Nat.pow_succ]; omega) (by rw[Nat.pow_succ]; have:=Nat.two_pow_pos k; omega)
 exact⟨by omega,by exact_mod_cast this⟩
theorem Ztr {a:Arr 4}(ha:dg a){n:Int}(hn:240≤n) (hn2:n≤100000):Tot (ZaU a n) fun r=>dg r∧sm r 16:=by
 unfold ZaU;refine Zf (fun _=>by omega) (fun h=>Zf (fun _=>Zb ⟨dg_zero,Zq7 _⟩) (fun h'=>?_));refine ZI (I:=fun(k:Nat) (s:Int×Arr 4)=>s.1+(k:Int)=256-n∧0≤s.1∧dg s.2∧sm s.2 s.1.toNat) (n:=(256-n).toNat) ?_ ⟨by simp; omega,by simp,dg_zero,Zq7 _⟩;rintro k ⟨i,r⟩ ⟨h1,h2,h3,h4⟩
 dsimp only at h1 h2 h3 h4;simp only[ZgZ,Zdu];rw[wi (i+n) (by omega)];refine Zf (fun h=>?_) (fun h=>?_)
 ·have e1:(i+1).toNat=i.toNat+1:=by omega
  refine(ZjI a (by omega) h).bind fun y _=>Zf (fun _=>?_) (fun _=>?_)
  ·rw[ZeW h2,Zbw h2,wi (i / 64) (by omega)]
   refine Xe (by omega) (by omega) fun j hj hj4=>Zw (by omega) (Zb ⟨k-1,by omega,?_,?_,Zfc h3 hj4 (Zh2 _ _ _),?_⟩)
   ·dsimp only
    rw[wi _ (by omega)];omega
   ·dsimp only
    rw[wi _ (by omega)];omega
   ·dsimp only
    rw[wi _ (by omega),e1];obtain rfl:j=0:=by omega
    have e2:min (i % 64).toNat 64=i.toNat:=by omega
    rw[e2];obtain⟨g1,g2,g3,g4,g5⟩:=h4;have:=Zxx (k:=i.toNat) (by omega) g1 g2;refine⟨?_,?_,?_,?_,?_⟩
    ·rw[Arr.at_put _ (by omega)]
     exact this.1
    ·rw[Arr.at_put _ (by omega)]
     exact this.2
    ·rw[Arr.at_put_ne _ (by omega)]
     exact g3
    ·rw[Arr.at_put_ne _ (by omega)]
     exact g4
    ·rw[Arr.at_put_ne _ (by omega)]
     exact g5
  ·refine Zb ⟨k-1,by omega,?_,?_,h3,?_⟩
   ·dsimp only
    rw[wi _ (by omega)];omega
   ·dsimp only
    rw[wi _ (by omega)];omega
   ·dsimp only
    rw[wi _ (by omega),e1];exact Zq8 h4 (by omega)
 ·exact Tot.out (Zb ⟨h3,Zq8 h4 (by omega)⟩)
theorem Zts {a:Arr 4}(h:sm a 16){n:Int}(h0:16≤n) (h1:n<256):Tot (ZaT a n) fun r=>r=false:=by
 unfold ZaT;rw[ZeW (by omega),Zbw (by omega),wi (n / 64) (by omega)];refine Xe (by omega) (by omega) fun j hj hj4=>Zw (by omega) (Zb ?_)
 have e:(a.at j).fdiv (2 ^ (min (n % 64).toNat 64))=0:=by
  obtain⟨g1,g2,g3,g4,g5⟩:=h;have hpos:(0:Int)<2 ^ (min (n % 64).toNat 64):=Int.pow_pos (by decide);have:j=0∨j=1∨j=2∨j=3:=by omega
  rcases this with rfl | rfl | rfl | rfl
  ·rw[Int.fdiv_eq_ediv_of_nonneg _ (by omega)]
   refine Int.ediv_eq_zero_of_lt g1 (Int.lt_of_lt_of_le g2 ?_)
   exact_mod_cast Nat.pow_le_pow_right (n:=2) (by decide) (show 16≤min (n % 64).toNat 64 by omega)
  ·rw[g3]; simp
  ·rw[g4]; simp
  ·rw[g5]; simp
 rw[e];decide
theorem Ztt {a:Arr 4}(h:sm a 16):Tot (ZbD a) fun r=>r≤16:=by
 unfold ZbD;refine ZI (I:=fun(n:Nat) (s:Int)=>s+1=(n:Int)∧s≤255) (n:=256) ?_ ⟨by omega,by omega⟩;rintro n s ⟨hs,hs2⟩
 simp only[Zg0];refine Zf (fun h0=>?_) (fun h0=>Tot.out (Zb (by omega)));by_cases h16:16≤s
 ·refine(Zts h h16 (by omega)).bind fun y hy=>Zf (fun hy2=>?_) (fun _=>?_)
  ·rw[hy] at hy2
   cases hy2
  ·exact Zb ⟨n-1,by omega,by rw[wi _ (by omega)]; omega,by rw[wi _ (by omega)]; omega⟩
 ·refine(ZjI a h0 (by omega)).bind fun y hy=>Zf (fun hy2=>?_) (fun _=>?_)
  ·exact Zb (show IntKind.i64.wrap (s+1)≤16 by rw[wi (s+1) (by omega)]; omega)
  ·exact Zb ⟨n-1,by omega,by rw[wi _ (by omega)]; omega,by rw[wi _ (by omega)]; omega⟩
theorem Zqy {a:Arr 4}(ha:dg a):Tot (ZcO a) M32:=by
 unfold ZcO;refine(Zkd a).bind fun y _=>Zf (fun _=>Zb ⟨by omega,by omega⟩) (fun _=>?_)
 refine ZI (I:=fun(n:Nat) (s:Int)=>s+(n:Int)=33∧1≤s) (n:=32) ?_ ⟨by omega,by omega⟩;rintro n s ⟨h1,h2⟩
 have nxt:1≤n→Nx (fun(n:Nat) (s:Int)=>s+(n:Int)=33∧1≤s) M32 n (.inl (IntKind.i64.wrap (s+1))):=fun hn =>
  ⟨n-1,by omega,by rw[wi _ (by omega)]; omega,by rw[wi _ (by omega)]; omega⟩
 have key:∀ r,1≤n∨sm r 16→Tot (Za4 s r) (Nx (fun(n:Nat) (s:Int)=>s+(n:Int)=33∧1≤s) M32 n):=by
  intro r hr;unfold Za4;rcases hr with hr | hr
  ·exact(Zq2 r).bind fun z _=>Zf (fun _=>Zb (Ztj _ _ _)) (fun _=>Zb (nxt hr))
  ·exact(Ztt hr).bind fun z hz=>Zf (fun _=>Zb (Ztj _ _ _)) (fun h=>absurd (show z≤23 by omega) h)
 simp only[Zgv];refine Zf (fun h3=>?_) (fun h3=>?_)
 ·rw[wi (3-s) (by omega),wi (8 * (3-s)) (by omega)]
  refine(Zq4 ha (by omega)).bind fun u hu=>(Zmv hu _).bind fun v hv=>(ZjJ _ _).bind fun w _=>Zf (fun _=>Zb (nxt (by omega))) (fun _=>key u (.inl (by omega)))
 ·rw[wi (s-3) (by omega),wi (8 * (s-3)) (by omega)]
  by_cases h33:s=33
  ·exact(Ztr ha (by omega) (by omega)).bind fun u hu=>key u (.inr hu.2)
  ·exact(Zmv ha _).bind fun u hu=>key u (.inl (by omega))
theorem Zr8 {p:Tapi_Params}(hp:PrmOk p){b:Int}(hb:M32 b) (x y:Int):Tot (ZdA p b x y) fun r=>M32 r.1:=by
 unfold ZdA;refine(Zd3 hp).bind fun v _=>Zf (fun _=>Zb ⟨by simp,by simp⟩) (fun _=>?_)
 refine(Zlt hb).bind fun t ht=>Zf (fun _=>Zb ⟨by simp,by simp⟩) (fun _=>?_)
 have k3:∀ a,dg a→Tot (Zdd a) fun r=>M32 r.1:=fun a ha=>by
  unfold Zdd;exact(Zqy ha).bind fun z hz=>Zb hz
 have k2:∀ a,dg a→Tot (Zde a) fun r=>M32 r.1:=fun a ha=>by
  unfold Zde;refine(Zkd a).bind fun z _=>Zf (fun _=>?_) (fun _=>k3 a ha)
  rw[Zls,Za];exact k3 _ (Zmu ⟨by omega,by omega⟩)
 have k1:∀ q,M64 q→Tot (Zdf p t q) fun r=>M32 r.1:=fun q hq=>by
  unfold Zdf;rw[Zls,Za]
  have hd:∀ c d e:Int,M64 c→M64 d→M64 e→M64 (if c<(if q<d then e else q) then c else(if q<d then e else q)):=by
   intro c d e hc hd he
   have h1:M64 (if q<d then e else q):=by
    split
    ·exact he
    ·exact hq
   generalize (if q<d then e else q)=w at h1 ⊢;split
   ·exact hc
   ·exact h1
  refine(ZvN ht (Zmu (hd _ _ _ (ZgQ _) (ZgQ _) (ZgQ _)))).bind fun m hm=>?_
  rw[Zls,Za];refine(ZvP hm.1 hm.2 (Zmu (ZgQ _))).bind fun z hz=>?_
  have h5:Tot (if ¬ (z.2.2=true) then some false else(Xn z.1 p.2.1).bind fun y8=>some (decide (0<y8))) fun _=>True :=
   Zf (fun _=>Zb trivial) (fun _=>(ZjJ _ _).bind fun _ _=>Zb trivial)
  exact h5.bind fun _ _=>Zf (fun _=>k2 _ hp.lim) (fun _=>k2 _ hz)
 exact Zf (fun _=>k1 _ (ZgQ _)) (fun _=>k1 _ ⟨by omega,by omega⟩)
theorem ZnF {p:Tapi_Params}(hp:PrmOk p){c:Tapi_Context}(hb:M32 c.2.2.1):Tot (Zdg p c) fun r=>M32 r.1:=by
 unfold Zdg;refine(Zd3 hp).bind fun v _=>Zf (fun _=>Zb ⟨by simp,by simp⟩) (fun h=>?_)
 have hw:=hp.win;refine Zw (by omega) (Zf (fun _=>Zb hb) (fun _=>?_));have hl:0<c.2.2.2.2.length∧c.2.2.2.2.length≤11:=by omega
 rw[wi _ (by omega)];exact XW (by omega) (by omega) fun x _=>(Zr8 hp hb _ _).bind fun z hz=>Zb hz
theorem ZnG (l:List Int) (hl:l.length≤1000):Tot (Zcg l) fun _=>True:=by
 unfold Zcg;refine ZI (I:=fun(n:Nat) (s:Int×List Int)=>s.1+(n:Int)=(l.length:Int)∧0≤s.1∧(s.2.length:Int)=s.1) (n:=l.length) ?_ ⟨by simp,by simp,by simp⟩;rintro n ⟨i,acc⟩ ⟨h1,h2,h3⟩
 dsimp only at h1 h2 h3;simp only[Zhg];refine Zf (fun h=>?_) (fun h=>?_)
 ·refine XW h2 h fun x _=>?_
  refine ZI (I:=fun(k:Nat) (s:Int)=>s+(k:Int)=(acc.length:Int)∧0≤s) (n:=acc.length) ?_ ⟨by omega,by omega⟩;rintro k s ⟨k1,k2⟩
  simp only[Zhf]
  have h5:Tot (if s<(acc.length:Int) then(inA (acc.length) s).bind fun j64=>(acc[j64]?).bind fun x65=>some (decide (x65≤x)) else some false) fun _=>True :=
   Zf (fun hs=>Xe k2 hs fun j _ hj=>ZdC hj fun _ _=>Zb trivial) (fun _=>Zb trivial)
  refine h5.bind fun z _=>Zf (fun hz=>?_) (fun hz=>?_)
  ·exact Zb ⟨k-1,by omega,by rw[wi _ (by omega)]; omega,by rw[wi _ (by omega)]; omega⟩
  ·refine Tot.out ?_
   unfold Zc8;refine Zw (by omega) (Zw (by omega) (Zw ?_ (Zw ?_ (Zb ⟨n-1,by omega,?_,?_,?_⟩))))
   ·simp only[List.length_take,List.length_drop]
    omega
   ·simp only[List.length_take,List.length_drop]
    omega
   ·dsimp only
    rw[wi _ (by omega)];omega
   ·dsimp only
    rw[wi _ (by omega)];omega
   ·dsimp only
    rw[wi _ (by omega)];simp only[List.length_append,List.length_take,List.length_drop,List.length_cons,List.length_nil];omega
 ·refine Tot.out ?_
  unfold Zhe;refine Zf (fun _=>Zb trivial) (fun _=>?_);rw[ZeW (by omega),wi _ (by omega)];exact Xe (by omega) (by omega) fun j _ hj=>ZdC hj fun _ _=>Zb trivial
theorem ZuI {p:Tapi_Params}(hp:PrmOk p){c:Tapi_Context}(hb:M32 c.2.2.1) (ht:c.2.2.2.2.length≤1000) (r:Arr 32) (y:Int):Tot (Zfx p c r y) fun h=>M32 h.2.2.2.2.1:=by
 unfold Zfx;refine(ZnF hp hb).bind fun b hb=>(ZnG _ ht).bind fun m _=>?_
 refine ZI (I:=fun(n:Nat) (s:Int)=>s+(n:Int)=20000∧0≤s) (n:=20000) ?_ ⟨by omega,by omega⟩;rintro n s ⟨h1,h2⟩
 simp only[Zik];refine Zf (fun h=>?_) (fun h=>Tot.out (Zb hb));rw[Zhw,Za];refine(ZoJ _ hb).bind fun z _=>Zf (fun _=>Zb hb) (fun _=>Zb ⟨n-1,by omega,?_,?_⟩)
 ·rw[Zln]
  omega
 ·rw[Zln]
  omega
end
section
set_option maxRecDepth 100000
def Zp5 (w:List (List Int)):Prop:=∃ k,(1≤k∧k≤6)∧w=[[k]]
theorem Zr9 {a:Int}(h0:0≤a):∃ j,ZaP a=some [1,1,j,5]∧1≤j∧j≤6:=by
 unfold ZaP;rw[Zbw h0,Za5];exact⟨_,rfl,by omega,by omega⟩
theorem ZkB {a:Int}(h0:0≤a):Tot (ZaP a) ScrM:=by
 obtain⟨j,h,hj⟩:=Zr9 h0;exact⟨_,h,j,hj,rfl⟩
theorem ZuJ {s:List Int}{w:List (List Int)}(hs:ScrM s) (hw:Zp5 w) (e:Tapi_Env):Tot (ZaD s w e) fun _=>True:=by
 obtain⟨j,hj,rfl⟩:=hs;obtain⟨k,hk,rfl⟩:=hw;unfold ZaD;rw[if_pos ⟨j,k,hj,hk,rfl,rfl⟩];exact Zb trivial
theorem Zp6 (o:Tapi_Output):(Zf0 o).length≤17+o.2.length:=by
 have:=Zjx o.2;unfold Zf0;rw[List.length_append,Zd1];omega
theorem Zsa (b:ByteArray) (hb:b.size≤1000){l:List Int}(hl:l.length≤1000000):Tot (Zan b l) fun _=>True:=by
 unfold Zan
 have e:(ZjZ b).length≤1000:=by
  unfold ZjZ;rw[List.length_map,Array.length_toList];exact hb
 refine Zw (by omega) ?_;rw[Zhu (by omega),Za];have h32:(ZaJ (ZjZ b)).l.length=32:=(ZaJ (ZjZ b)).hl;refine Zw (by omega) (Zw (by omega) (Zw (by omega) ?_));rw[Zhu (by simp only[List.length_append]; omega),Za];exact Zb trivial
theorem Zqz (t:Tapi_Tx) (i:Int) (o:Tapi_Output):Tot (ZcP t i o) fun r=>r.2=0→0≤i∧i<t.2.1.length:=by
 unfold ZcP;rw[ZeU,Za];refine Zf (fun _=>Zb (by simp)) (fun h=>Zf (fun _=>Zb (by simp)) (fun hi=>?_))
 have hf:Yq t=true:=by
  apply Decidable.byContradiction
  intro c;exact h (.inl (.inl c))
 have hso:o.2.length≤520:=by
  apply Decidable.byContradiction
  intro c;exact h (.inr (by omega))
 obtain⟨l1,l2,l3,l4⟩:=Ziw hf;refine ZI (I:=fun(n:Nat) (s:Int×List Int×List Int)=>s.1+(n:Int)=(t.2.1.length:Int)∧0≤s.1∧(s.2.1.length:Int)=36 * s.1∧(s.2.2.length:Int)=4 * s.1) (n:=t.2.1.length) ?_ ⟨by simp,by simp,by simp,by simp⟩;rintro n ⟨k,a,b⟩ ⟨h1,h2,h3,h4⟩
 dsimp only at h1 h2 h3 h4;simp only[Zgx];refine Zf (fun hk=>?_) (fun hk=>?_)
 ·refine XW h2 hk fun x _=>?_
  rw[Zov,Za];have hp:=Zli x.1;refine Zw (by omega) ?_;rw[ZdB (by omega),Za];refine Zb ⟨n-1,by omega,?_,?_,?_,?_⟩
  ·dsimp only
   rw[wi _ (by omega)];omega
  ·dsimp only
   rw[wi _ (by omega)];omega
  ·dsimp only
   rw[wi _ (by omega),List.length_append];omega
  ·dsimp only
   rw[wi _ (by omega),List.length_append,Zd1];omega
 ·refine Tot.out ?_
  unfold Zco;refine ZI (I:=fun(n:Nat) (s:Int×List Int)=>s.1+(n:Int)=(t.2.2.1.length:Int)∧0≤s.1∧(s.2.length:Int)≤1000 * s.1) (n:=t.2.2.1.length) ?_ ⟨by simp,by simp,by simp⟩;rintro m ⟨q,c⟩ ⟨g1,g2,g3⟩
  dsimp only at g1 g2 g3;simp only[Zgw];refine Zf (fun hq=>?_) (fun hq=>?_)
  ·refine XW g2 hq fun x hx=>?_
   have hx5:=(l3 x hx).2;rw[ZnZ (by omega),Za]
   have ho:(Zf0 x).length≤1000:=by
    have:=Zp6 x;omega
   refine Zw (by omega) (Zb ⟨m-1,by omega,?_,?_,?_⟩)
   ·dsimp only
    rw[wi _ (by omega)];omega
   ·dsimp only
    rw[wi _ (by omega)];omega
   ·dsimp only
    rw[wi _ (by omega),List.length_append];omega
  ·refine Tot.out ?_
   unfold Zcn;have z1:(ZaJ a).l.length=32:=(ZaJ a).hl;have z2:(ZaJ b).l.length=32:=(ZaJ b).hl;have z3:(ZaJ c).l.length=32:=(ZaJ c).hl;rw[ZdB (by simp),Za,Zhu (by omega),Za,Zit (by simp),Za,Zhu (by omega),Za,Zit (by simp),Za,Zhu (by omega),Za,Zit (by simp),Za,ZdB (by simp),Za,ZdB (by simp),Za,ZnZ (by omega),Za]
   have ho:(Zf0 o).length≤1000:=by
    have:=Zp6 o;omega
   refine Zw (by simp; omega) ?_;refine(Zsa _ (by decide) (by simp; omega)).bind fun z _=>Zb fun _=>?_
   omega
theorem Ztu {t:Tapi_Tx}{i:Int}{c:Tapi_Coin}{h:Int}(hs:ScrM c.2.1.2) (hw:∀ x∈t.2.1,Zp5 x.2.2):Tot (Zep t i c h) fun _=>True:=by
 unfold Zep;refine(Zqz t i c.2.1).bind fun m hm=>Zf (fun _=>Zb trivial) (fun h0=>?_)
 have hi:=hm (Decidable.byContradiction h0);refine XW hi.1 hi.2 fun x hx=>Zf (fun _=>Zb trivial) (fun _=>Zf (fun _=>Zb trivial) (fun _=>?_))
 exact(ZuJ hs (hw x hx) _).bind fun _ _=>Zb trivial
theorem ZqA {t:Tapi_Tx}{l:List Tapi_Coin}{h:Int}(hl:l.length≤1000000) (ht:t.2.1.length≤1000) (hs:∀ c∈l,ScrM c.2.1.2) (hw:∀ x∈t.2.1,Zp5 x.2.2):Tot (Zeq t l h) fun _=>True:=by
 unfold Zeq;rw[Zl3,Za];refine Zf (fun _=>Zb trivial) (fun _=>?_);obtain⟨r,-,hr⟩:=Zuh t l;rw[hr,Za];refine Zf (fun _=>Zb trivial) (fun _=>(ZoL t ht h).bind fun y _=>Zf (fun _=>Zb trivial) (fun _=>?_));refine Zbx l (fun _=>True) (by omega) trivial ?_ ?_
 ·intro i hi _
  simp only[ZfO];rw[if_pos (by omega),Zi hi];exact(Ztu (hs _ (List.getElem_mem hi)) hw).bind fun z _=>Zf (fun _=>Zb trivial) (fun _=>Zb ⟨Zu hi (by omega),trivial⟩)
 ·intro _
  simp only[ZfO];rw[if_neg (by omega)];exact⟨_,rfl,trivial⟩
structure TxM (t:Tapi_Tx):Prop where
 ins:t.2.1.length=1
 wit:∀ x∈t.2.1,Zp5 x.2.2∧Byt x.1.1.l
 outs:t.2.2.1.length≤2
 scr:∀ o∈t.2.2.1,ScrM o.2
theorem ZwC {s:List Int}(h:ScrM s):∃ j,(1≤j∧j≤6)∧Zhr s=some [[j]]:=by
 obtain⟨j,hj,rfl⟩:=h;refine⟨j,hj,?_⟩;unfold Zhr;rw[if_neg (by simp)];rfl
theorem Ztv {c:Tapi_Coin}(hc:Zjz c){a:Int}(h0:0≤a):Tot (Zfw c a) fun r=>TxM r.1:=by
 obtain⟨hb,hs⟩:=hc;obtain⟨j,hj,e⟩:=ZwC hs;unfold Zfw;rw[e,Za]
 have k1:∀ p (q:List Tapi_Output),q.length≤1→(∀ o∈q,ScrM o.2)→Tot (Zen a c [[j]] p q) fun r=>TxM r.1:=by
  intro p q hq hq2;unfold Zen;refine(ZkB (by rw[Za5]; omega)).bind fun y hy=>Zw (by omega) (Zb ⟨rfl,?_,?_,?_⟩)
  ·intro x hx
   obtain rfl:=List.mem_singleton.1 hx;exact⟨⟨j,hj,rfl⟩,hb⟩
  ·simp
   omega
  ·intro o ho
   rcases List.mem_append.1 ho with ho | ho
   ·exact hq2 o ho
   ·obtain rfl:=List.mem_singleton.1 ho
    exact hy
 refine Zf (fun _=>?_) (fun _=>k1 _ _ (by simp) (by simp));refine(ZkB (by rw[Za5]; omega)).bind fun y hy=>k1 _ _ (by simp) ?_
 intro o ho;obtain rfl:=List.mem_singleton.1 ho;exact hy
end
section
set_option maxRecDepth 100000
theorem Zn6 (n:Nat):Byt (zA n).l:=by
 intro x hx
 have:x=0:=by
  simp only[zA] at hx;exact List.eq_of_mem_replicate hx
 omega
theorem Zp7 (h:Arr 8):∀ k,Byt (Zkx h k).l
 | 0=>Zn6 32
 | k+1=>by
  intro x hx;rcases List.mem_or_eq_of_mem_set hx with hx | rfl
  ·exact Zp7 h k x hx
  ·unfold byt
   rw[Za5];omega
theorem ZuK (l:List Int):Byt (ZaJ l).l:=Zp7 _ 32
theorem Zq9 (t:Tapi_Tx):Byt (idS t).l:=by
 unfold idS;split
 ·exact ZuK _
 ·exact Zn6 32
theorem ZvQ {p:Tapi_Params}{l:Tapi_Ledger}{a:Int}(hl:l.2.2.length≤100000) (hc:∀ c∈l.2.2,Zjz c) (h0:0≤a∧a≤255):Tot (YJ p l a) fun r=>r.1.length≤3∧∀ t∈r.1,TxM t:=by
 unfold YJ;refine Zw (by omega) ?_;refine ZI (I:=fun(n:Nat) (s:Int×Int×List Tapi_Tx×List Tapi_Coin)=>s.2.1+(n:Int)=3∧0≤s.2.1∧((s.2.2.1.length:Int)≤s.2.1∧∀ t∈s.2.2.1,TxM t)∧(s.2.2.2.length:Int)≤100000+2 * s.2.1∧∀ c∈s.2.2.2,Zjz c) (n:=3) ?_ ⟨by simp,by simp,⟨by simp,by simp⟩,by dsimp only; omega,hc⟩;rintro n ⟨fe,k,txs,cs⟩ ⟨h1,h2,⟨h3,h4⟩,h5,h6⟩
 dsimp only at h1 h2 h3 h4 h5 h6;simp only[ZdY];rw[Zbw h0.1];refine Zf (fun hk=>?_) (fun hk=>Tot.out (Zb ⟨by dsimp only; omega,h4⟩));have hu:0≤IntKind.u8.wrap (a.tdiv 4)∧IntKind.u8.wrap (a.tdiv 4)≤255:=by rw[Za5]; omega
 refine ZI (I:=fun(m:Nat) (s:Int)=>s+(m:Int)=(cs.length:Int)∧0≤s) (n:=cs.length) ?_ ⟨by omega,by omega⟩;rintro m i ⟨g1,g2⟩
 simp only[ZdX];generalize IntKind.u8.wrap (a.tdiv 4)=u at hu ⊢;rw[wi u (by omega),wi k (by omega),wi (u+k) (by omega),wi (u+k+i) (by omega),Zbw (n:=u+k+i) (by omega)];refine Zf (fun hi=>?_) (fun hi=>?_)
 ·have he:0≤(u+k+i) % (cs.length:Int)∧(u+k+i) % (cs.length:Int)<cs.length:=⟨Int.emod_nonneg _ (by omega),Int.emod_lt_of_pos _ (by omega)⟩
  generalize (u+k+i) % (cs.length:Int)=e at he ⊢;refine Zw (by omega) (Xe he.1 he.2 fun j hj hjl=>ZdC hjl fun c hcj=>Zf (fun _=>?_) (fun _=>?_))
  ·exact Zb ⟨m-1,by omega,by rw[wi _ (by omega)]; omega,by rw[wi _ (by omega)]; omega⟩
  ·have hcm:=h6 c (List.mem_of_getElem? hcj)
   refine(Ztv hcm (by rw[Za5]; omega)).bind fun y hy=>?_
   have ho:=hy.outs;rw[wi (e+1) (by omega)];refine Zw (by omega) (Zw (by omega) (Zw (by omega) (Zw (by simp; omega) ?_)));rw[Zp3,Za];refine ZI (I:=fun(q:Nat) (s:Int×List Tapi_Coin)=>s.1+(q:Int)=(y.1.2.2.1.length:Int)∧0≤s.1∧(s.2.length:Int)≤100000+2 * k+s.1∧∀ c∈s.2,Zjz c) (n:=y.1.2.2.1.length) ?_ ⟨by simp,by simp,by simp; omega,?_⟩
   ·rintro q ⟨b,ds⟩ ⟨d1,d2,d3,d4⟩
    dsimp only at d1 d2 d3 d4;simp only[ZbG];refine Zf (fun hb=>?_) (fun hb=>?_)
    ·refine Xe d2 hb fun z hz hzl=>ZdC hzl fun o hoz=>Zw (by omega) (Zb ⟨q-1,by omega,?_,?_,?_,?_⟩)
     ·dsimp only
      rw[wi _ (by omega)];omega
     ·dsimp only
      rw[wi _ (by omega)];omega
     ·dsimp only
      rw[wi (b+1) (by omega),List.length_append];simp
      omega
     ·intro c' hc'
      rcases List.mem_append.1 hc' with hc' | hc'
      ·exact d4 c' hc'
      ·obtain rfl:=List.mem_singleton.1 hc'
       exact⟨Zq9 _,hy.scr o (List.mem_of_getElem? hoz)⟩
    ·refine Tot.out ?_
     unfold ZbF;refine Tot.out ?_;unfold Y0;refine Zb ⟨n-1,by omega,?_,?_,⟨?_,?_⟩,?_,d4⟩
     ·dsimp only
      rw[Za5];omega
     ·dsimp only
      rw[Za5];omega
     ·dsimp only
      rw[Za5,List.length_append];simp
      omega
     ·intro t ht
      rcases List.mem_append.1 ht with ht | ht
      ·exact h4 t ht
      ·obtain rfl:=List.mem_singleton.1 ht
       exact hy
     ·dsimp only
      rw[Za5];omega
   ·intro c' hc'
    rcases List.mem_append.1 hc' with hc' | hc'
    ·exact h6 c' (List.mem_of_mem_take hc')
    ·exact h6 c' (List.mem_of_mem_drop (List.mem_of_mem_take hc'))
 ·refine Tot.out ?_
  unfold Y0;refine Zb ⟨n-1,by omega,?_,?_,⟨?_,h4⟩,?_,h6⟩
  ·dsimp only
   rw[Za5];omega
  ·dsimp only
   rw[Za5];omega
  ·dsimp only
   rw[Za5];omega
  ·dsimp only
   rw[Za5];omega
structure BlkM (b:Tapi_Block):Prop where
 bits:M32 b.1.2.2.2.2.1
 len:b.2.length≤4
 one:∀ t∈b.2,t.2.1.length=1∧t.2.2.1.length≤2∧(∀ x∈t.2.1,Byt x.1.1.l)∧∀ o∈t.2.2.1,ScrM o.2
 wit:∀ i (h:i<b.2.length),0<i→∀ x∈b.2[i].2.1,Zp5 x.2.2
structure Zmb (c:Tapi_Context):Prop where
 bits:M32 c.2.2.1
 times:c.2.2.2.2.length≤100
structure Zn7 (l:Tapi_Ledger):Prop where
 len:l.2.2.length≤100000
 coins:∀ c∈l.2.2,Zjz c
theorem Ztw {p:Tapi_Params}(hp:PrmOk p){l:Tapi_Ledger}(hl:Zn7 l) (hh:0≤l.1∧l.1≤1000000){c:Tapi_Context}(hc:Zmb c){a:Int}(h0:0≤a∧a≤255):Tot (Zeo p l c a) BlkM:=by
 unfold Zeo;refine(ZvQ hl.len hl.coins h0).bind fun y hy=>?_
 rw[wi (l.1+1) (by omega)];refine(ZmK hp (by omega)).bind fun s hs=>(ZkB (by rw[Za5]; omega)).bind fun z hz=>?_
 have e1:Zeg (l.1+1) (IntKind.i64.wrap (s+y.2)) z=some (1,[((zA 32,4294967295),IntKind.u32.wrap (l.1+1),[])],[(IntKind.i64.wrap (s+y.2),z)],0):=rfl;rw[e1,Za];refine Zw (by omega) ((ZnE _ (by simp; omega)).bind fun r _=>?_);have e2:∃ q,Ze8 a=some q:=⟨_,rfl⟩
 obtain⟨q,e2⟩:=e2;rw[e2,Za];refine(ZuI hp hc.bits (by have:=hc.times; omega) r q).bind fun h hb=>Zb ⟨hb,?_,?_,?_⟩
 ·simp
  omega
 ·intro t ht
  rcases List.mem_append.1 ht with ht | ht
  ·obtain rfl:=List.mem_singleton.1 ht
   refine⟨rfl,by simp,?_,?_⟩
   ·intro x hx
    obtain rfl:=List.mem_singleton.1 hx;exact Zn6 32
   ·intro o ho
    obtain rfl:=List.mem_singleton.1 ho;exact hz
  ·have:=hy.2 t ht
   exact⟨this.ins,this.outs,fun x hx=>(this.wit x hx).2,this.scr⟩
 ·intro i hi hpos x hx
  obtain⟨i,rfl⟩:∃ k,i=k+1:=⟨i-1,by omega⟩
  simp only[List.singleton_append,List.getElem_cons_succ] at hx;exact((hy.2 _ (List.getElem_mem _)).wit x hx).1
end
section
set_option maxRecDepth 100000
theorem ZqB {p:Tapi_Params}(hp:PrmOk p){l:Tapi_Ledger}(hl:Zn7 l) (hh:0≤l.1∧l.1≤1000000){b:Tapi_Block}(hb:BlkM b):Tot (Zb9 p l b) fun r=>r.2.2=0→Zn5 b∧Zn7 r.1∧r.1.1=l.1+1:=by
 unfold Zb9;refine(Ztp hp l (by have:=hl.len; omega) b).bind fun e he=>Zf (fun h=>Zb fun h'=>absurd h' h) (fun h=>?_)
 have hB:=he (Decidable.byContradiction h);rw[Zhw,Za,wi (l.1+1) (by omega)];have hlen:=hb.len;have hpos:0<b.2.length:=List.length_pos_iff.2 hB.ne;refine(ZmK hp (by omega)).bind fun su _=>?_
 refine ZI (I:=fun(n:Nat) (s:Int×Int×List Tapi_Coin×List Tapi_Coin)=>s.2.1+(n:Int)=(b.2.length:Int)∧0≤s.2.1∧((s.2.2.1.length:Int)≤100000+2 * s.2.1∧∀ c∈s.2.2.1,Zjz c)∧(s.2.2.2.length:Int)≤s.2.1) (n:=b.2.length) ?_ ⟨by simp,by simp,⟨by have:=hl.len; dsimp only; omega,hl.coins⟩,by simp⟩;rintro n ⟨mo,i,cs,sp⟩ ⟨h1,h2,⟨h3,h4⟩,h5⟩
 dsimp only at h1 h2 h3 h4 h5;simp only[ZfZ];rw[wi (l.1+1) (by omega)];refine Zf (fun hi=>?_) (fun hi=>?_)
 ·obtain⟨k,rfl⟩:=Int.eq_ofNat_of_zero_le h2
  have hk:k<b.2.length:=by omega
  rw[Zi hk];have ht:=hb.one _ (List.getElem_mem hk);have hw:=hb.wit k hk;generalize b.2[k]=t at ht hw ⊢;obtain⟨t1,t2,t3,t4⟩:=ht
  have k2:∀ (m:Int) (ds es:List Tapi_Coin),ds.length≤100000+2 * k→(∀ c∈ds,Zjz c)→es.length≤k+1→Tot (XS t l (k:Int) m ds es) (Nx (fun(n:Nat) (s:Int×Int×List Tapi_Coin×List Tapi_Coin)=>s.2.1+(n:Int)=(b.2.length:Int)∧0≤s.2.1∧((s.2.2.1.length:Int)≤100000+2 * s.2.1∧∀ c∈s.2.2.1,Zjz c)∧(s.2.2.2.length:Int)≤s.2.1) (fun r=>r.2.2=0→Zn5 b∧Zn7 r.1∧r.1.1=l.1+1) n):=by
   intro m ds es hd1 hd2 he;unfold XS;rw[wi (l.1+1) (by omega)];refine(Ztn (by omega) (by omega) (fun o ho=>by have:=(t4 o ho).len; omega) _).bind fun r hr=>Zf (fun h=>Zb fun h'=>absurd h' h) (fun h=>?_)
   obtain⟨r1,r2⟩:=hr (Decidable.byContradiction h);refine Zb ⟨n-1,by omega,?_,?_,⟨?_,?_⟩,?_⟩
   ·dsimp only
    rw[wi _ (by omega)];omega
   ·dsimp only
    rw[wi _ (by omega)];omega
   ·dsimp only
    rw[wi _ (by omega)];omega
   ·intro c hc
    rcases r2 c hc with hc | ⟨hc,o,ho,e⟩
    ·exact hd2 c hc
    ·refine⟨?_,?_⟩
     ·rw[hc]
      exact Zq9 t
     ·rw[e]
      exact t4 o ho
   ·dsimp only
    rw[wi _ (by omega)];omega
  refine Zf (fun hpos'=>?_) (fun _=>k2 _ _ _ (by omega) h4 (by omega));refine(Zto (by omega) (fun c hc=>by have:=(h4 c hc).2.len; omega) (by omega) _).bind fun y hy=>Zf (fun h=>Zb fun h'=>absurd h' h) (fun h=>?_)
  obtain⟨y1,y2,y3⟩:=hy (Decidable.byContradiction h);refine(ZqA (by omega) (by omega) (fun c hc=>(h4 c (y2 c hc)).2) (hw (by omega))).bind fun z _=>Zf (fun h=>Zb fun h'=>absurd h' h) (fun _=>?_)
  refine ZI (I:=fun(q:Nat) (s:Int×List Tapi_Coin)=>s.1+(q:Int)=1∧0≤s.1∧(s.1=0→s.2=cs)∧(s.2.length:Int)≤100000+2 * k∧∀ c∈s.2,Zjz c) (n:=1) ?_ ⟨by simp,by simp,fun _=>rfl,by dsimp only; omega,h4⟩;rintro q ⟨a,ds⟩ ⟨d1,d2,d3,d4,d5⟩
  dsimp only at d1 d2 d3 d4 d5;simp only[ZfY];refine Zf (fun ha=>?_) (fun ha=>?_)
  ·obtain rfl:=d3 (by omega)
   refine XW d2 ha fun c hc=>?_
   refine(Zm8 ds c.1 (by omega)).bind fun f hf=>?_
   rcases hf with ⟨_,hf⟩ | ⟨j,hj,rfl,_⟩
   ·exact absurd rfl (hf c (y2 c hc))
   ·rw[Zr7 hj (by omega),Za]
    refine Zb ⟨q-1,by omega,?_,?_,?_,?_,?_⟩
    ·dsimp only
     rw[wi _ (by omega)];omega
    ·dsimp only
     rw[wi _ (by omega)];omega
    ·dsimp only
     rw[wi _ (by omega)];omega
    ·dsimp only
     simp only[List.length_append,List.length_take,List.length_drop];omega
    ·intro c' hc'
     rcases List.mem_append.1 hc' with hc' | hc'
     ·exact d5 c' (List.mem_of_mem_take hc')
     ·exact d5 c' (List.mem_of_mem_drop hc')
  ·refine Tot.out ?_
   unfold ZfX;exact Zw (by omega) (k2 _ _ _ (by omega) d5 (by rw[List.length_append]; omega))
 ·refine Tot.out ?_
  unfold ZfW;rw[wi (l.1+1) (by omega)];refine ZdC hpos fun x hx=>?_
  have hx' := hb.one x (List.mem_of_getElem? hx);refine(ZkA x (by omega) _).bind fun o ho=>(ZoM o (by omega)).bind fun v _=>Zf (fun _=>Zb fun h'=>absurd h' (by simp)) (fun _=>?_)
  refine(ZoM cs (by omega)).bind fun w _=>Zf (fun _=>Zb fun h'=>absurd h' (by simp)) (fun _=>Zf (fun _=>Zb fun h'=>absurd h' (by simp)) (fun h'=>Zb fun _=>⟨hB,⟨by dsimp only; omega,h4⟩,rfl⟩))
theorem Zsb {p:Tapi_Params}(hp:PrmOk p) (c:Tapi_Context):Tot (Zfu p c) fun _=>True:=by
 unfold Zfu;exact(Zd3 hp).bind fun _ _=>Zb trivial
theorem ZmN {p:Tapi_Params}(hp:PrmOk p){c:Tapi_Context}(hc:Zmb c){h:Tapi_Header}(hb:M32 h.2.2.2.2.1):Tot (Zbv p c h) fun r=>Zmb r.1:=by
 unfold Zbv;have z0:Zmb ((0,zA 32,0,0,([]:List Int)):Tapi_Context):=⟨⟨by decide,by decide⟩,by simp⟩
 have hw:=hp.win;have ht:=hc.times;refine(Zsb hp c).bind fun y _=>Zf (fun _=>Zb z0) (fun _=>Zf (fun _=>Zb z0) (fun _=>?_))
 rw[Zhw,Za]
 have k1:∀ x,Tot (Zcm c h (Zm7 h) x) fun r=>Zmb r.1:=by
  intro x;unfold Zcm;refine Zw (by omega) (Zw (by omega) (Zf (fun hlt=>?_) (fun hlt=>Zb ⟨hb,by simp; omega⟩)));exact Zw (by simp; omega) (Zb ⟨hb,by simp; omega⟩)
 exact Zw (by omega) (Zf (fun _=>k1 _) (fun _=>k1 _))
theorem ZqC {p:Tapi_Params}(hp:PrmOk p){c:Tapi_Context}(hc:Zmb c){h:Tapi_Header}(hb:M32 h.2.2.2.2.1) (n:Int):Tot (Zch p c h n) fun _=>True:=by
 unfold Zch;refine(ZmN hp hc hb).bind fun y _=>Zf (fun _=>Zb trivial) (fun _=>Zf (fun _=>Zb trivial) (fun _=>Zf (fun _=>Zb trivial) (fun _=>?_)))
 refine(ZnF hp hc.bits).bind fun z _=>Zf (fun _=>Zb trivial) (fun _=>Zf (fun _=>Zb trivial) (fun _=>?_))
 refine(ZoJ _ hb).bind fun w _=>Zf (fun _=>Zb trivial) (fun _=>?_)
 refine(ZnG _ (by have:=hc.times; omega)).bind fun m _=>Zf (fun _=>Zb trivial) (fun _=>Zf (fun _=>Zb trivial) (fun _=>?_))
 refine Zbx ([]:List Nat) (fun _=>True) (by simp) trivial (fun i hi=>absurd hi (by simp)) fun _=>?_
 simp only[Zhj];rw[hp.cps,if_neg (by simp)];exact⟨_,rfl,trivial⟩
structure Zp8 (k:Nat) (w:Tlightclientmade_World):Prop where
 prm:PrmOk w.1
 blk:∀ b∈w.2.1,Zn5 b∧BlkM b
 led:∀ l∈w.2.2.1,Zn7 l∧0≤l.1∧l.1≤k
 ctx:∀ c∈w.2.2.2.1,Zmb c
 lens:w.2.2.1.length=w.2.1.length+1∧w.2.2.2.1.length=w.2.1.length+1∧w.2.2.2.2.length=w.2.1.length∧w.2.1.length≤k
theorem ZuL {k:Nat}{w:Tlightclientmade_World}(h:Zp8 k w){l:List Int}(hl:∀ a∈l,0≤a∧a≤255) (hk:k+l.length≤1000000):Tot (Zfy w l) fun r=>Zp8 (k+l.length) r∧r.1=w.1:=by
 obtain⟨hp,hb,hle,hc,hn1,hn2,hn3,hn4⟩:=h;unfold Zfy;refine Zw (by omega) (Zw (by omega) (Zw (by omega) (Zw (by omega) ?_)));refine ZI (I:=fun(n:Nat) (s:Int×List Tapi_Block×List Tapi_Ledger×List Tapi_Context×List (List Tapi_Coin))=>s.1+(n:Int)=(l.length:Int)∧0≤s.1∧Zp8 (k+s.1.toNat) (w.1,s.2.1,s.2.2.1,s.2.2.2.1,s.2.2.2.2)) (n:=l.length) ?_ ⟨by simp,by simp,⟨hp,hb,hle,hc,hn1,hn2,hn3,hn4⟩⟩;rintro n ⟨i,bs,ls,cs,us⟩ ⟨h1,h2,⟨g1,g2,g3,g4,g5,g6,g7,g8⟩⟩
 dsimp only at h1 h2 g1 g2 g3 g4 g5 g6 g7 g8;simp only[Zim];refine Zf (fun hi=>?_) (fun hi=>?_)
 ·refine XW h2 hi fun a ha=>?_
  rw[wi ((ls.length:Int)-1) (by omega),wi ((cs.length:Int)-1) (by omega)];refine Xe (by omega) (by omega) fun j hj hjl=>ZdC hjl fun x hx=>Xe (by omega) (by omega) fun q hq hql=>ZdC hql fun c hcq=>?_
  obtain⟨x1,x2,x3⟩:=g3 x (List.mem_of_getElem? hx);have hcm:=g4 c (List.mem_of_getElem? hcq);refine(Ztw hp x1 ⟨x2,by omega⟩ hcm (hl a ha)).bind fun b hbm=>(ZqB hp x1 ⟨x2,by omega⟩ hbm).bind fun r hr=>?_
  have h5:Tot (if ¬ (r.2.2=0) then some (false) else(Zch w.1 c b.1 1073741824).bind fun y64=>some (!(decide (y64=0)))) fun _=>True :=
   Zf (fun _=>Zb trivial) (fun _=>(ZqC hp hcm hbm.bits _).bind fun _ _=>Zb trivial)
  refine h5.bind fun z _=>Zf (fun _=>?_) (fun hz=>?_)
  ·refine Zb ⟨n-1,by omega,?_,?_,?_⟩
   ·dsimp only
    rw[wi _ (by omega)];omega
   ·dsimp only
    rw[wi _ (by omega)];omega
   ·dsimp only
    rw[wi _ (by omega),show(i+1).toNat=i.toNat+1 by omega];exact⟨g1,g2,fun l' hl'=>⟨(g3 l' hl').1,(g3 l' hl').2.1,by have:=(g3 l' hl').2.2; omega⟩,g4,g5,g6,g7,by dsimp only; omega⟩
  ·have h0:r.2.2=0:=by
    apply Decidable.byContradiction
    intro c';exact hz (.inl c')
   obtain⟨r1,r2,r3⟩:=hr h0;refine(ZmN hp hcm hbm.bits).bind fun d hd=>Zw (by omega) (Zw (by omega) (Zw (by omega) (Zw (by omega) (Zb ⟨n-1,by omega,?_,?_,?_⟩))))
   ·dsimp only
    rw[wi _ (by omega)];omega
   ·dsimp only
    rw[wi _ (by omega)];omega
   ·dsimp only
    rw[wi _ (by omega),show(i+1).toNat=i.toNat+1 by omega];refine⟨g1,?_,?_,?_,?_,?_,?_,?_⟩
    ·intro b' hb'
     rcases List.mem_append.1 hb' with hb' | hb'
     ·exact g2 b' hb'
     ·obtain rfl:=List.mem_singleton.1 hb'
      exact⟨r1,hbm⟩
    ·intro l' hl'
     rcases List.mem_append.1 hl' with hl' | hl'
     ·exact⟨(g3 l' hl').1,(g3 l' hl').2.1,by have:=(g3 l' hl').2.2; omega⟩
     ·obtain rfl:=List.mem_singleton.1 hl'
      exact⟨r2,by omega,by omega⟩
    ·intro c' hc'
     rcases List.mem_append.1 hc' with hc' | hc'
     ·exact g4 c' hc'
     ·obtain rfl:=List.mem_singleton.1 hc'
      exact hd
    ·simp[g5]
    ·simp[g6]
    ·simp[g7]
    ·simp
     omega
 ·refine Tot.out (Zb ⟨?_,rfl⟩)
  have e:i.toNat=l.length:=by omega
  rw[e] at g3 g8;exact⟨g1,g2,g3,g4,g5,g6,g7,g8⟩
end
section
set_option maxRecDepth 100000
theorem Zp9 (p:Nat):∀ (l:List Int) (n:Nat) (s:Int) (B:List Bool),n≤1600000→Zhl p n s l=some B→n+B.length≤1600000
 | [],n,s,B,hn,h=>by
  simp only[Zhl,Option.some.injEq] at h;subst h;simpa using hn
 | v :: l,n,s,B,hn,h=>by
  rw[Zhl] at h;split at h
  ·cases h
  ·rename_i hl
   obtain⟨B2,h2,rfl⟩:=Option.map_eq_some_iff.1 h;have:=Zp9 p l _ v B2 (by omega) h2;rw[List.length_append,ZgP];omega
theorem Zxy {k:Arr 2}{o:List (List Int)}{p m:Int}{r:Tapi_Filter×Int}(ho:o.length≤4096) (hp:0≤p∧p≤32) (hm:1≤m∧m≤1099511627776) (h:BR k o p m r):r=((0,[]),4)∨(r.2=0∧Byt r.1.2∧r.1.1=((dfs [] o).length:Int)∧DR r.1 p=(srt ((dfs [] o).map (Zhm k r.1.1 m)),0)):=by
 have hby:=ZwA h;have hdl:=dfs_len o [];simp only[List.length_nil,Nat.zero_add] at hdl;rcases h with ⟨a1,_⟩ | ⟨_,a2,_⟩ | ⟨_,_,h⟩
 ·omega
 ·omega
 ·rcases h with ⟨a1,_⟩ | ⟨_,a2,_⟩ | ⟨_,_,_,a4,_⟩ | ⟨h1,_,_,h4,h5⟩
  ·rw[ZbL] at a1; simp at a1; omega
  ·omega
  ·exact absurd (ZqZ _) a4
  ·cases hB:Zhl p.toNat 0 0 (srt ((dfs [] o).map (Zhm k ((dfs [] o).length:Int) m))) with
   | none=>rw[hB] at h5; exact .inl h5
   | some B =>
    rw[hB] at h5;obtain⟨y,rfl,hw⟩:=h5;have hl:(srt ((dfs [] o).map (Zhm k ((dfs [] o).length:Int) m))).length=(dfs [] o).length:=by rw[ZbL]; simp
    obtain⟨q,rfl⟩:∃ q:Nat,p=(q:Int):=⟨p.toNat,by omega⟩
    rw[show((q:Int)).toNat=q by omega] at hB;have:=ZuA h1 (by omega) (Zn4 (Zn3 _ _ _ _)) h4 hB (by have:=Zp9 q _ 0 0 B (by omega) hB; omega) hw;refine .inr ⟨rfl,hby,?_,?_⟩
    ·simp only[hl]
    ·simp only
     rw[this,hl]
end
section
set_option maxRecDepth 100000
theorem Zsc {x:Int}(h0:0≤x) (h1:x≤18446744073709551615):bits .and .u64 x 4294967295=x % 4294967296:=by
 obtain⟨n,rfl⟩:=Int.eq_ofNat_of_zero_le h0;show IntKind.u64.wrap ((BitVec.ofInt 64 (n:Int) &&& BitVec.ofInt 64 4294967295).toNat:Int)=_
 rw[BitVec.toNat_and]
 have e1:(BitVec.ofInt 64 (n:Int)).toNat=n:=by
  simp only[BitVec.toNat_ofInt];omega
 have e2:(BitVec.ofInt 64 4294967295).toNat=2 ^ 32-1:=by decide
 rw[e1,e2,Nat.and_two_pow_sub_one_eq_mod,Zny (by omega)];omega
theorem ZwD {h y:Int}(hh:0≤h∧h≤18446744073709551615) (hy:0≤y∧y≤4294967295):scl h y≤y:=by
 unfold scl XP;simp only[Option.map_some,Option.getD_some];have f1:h.fdiv 4294967296=h / 4294967296:=by rw[Int.fdiv_eq_ediv_of_nonneg _ (by omega)]
 have f2:y.fdiv 4294967296=0:=by rw[Int.fdiv_eq_ediv_of_nonneg _ (by omega)]; omega
 have f3:bits .and .u64 y 4294967295=y:=by rw[Zsc hy.1 (by omega)]; omega
 rw[f1,f2,f3,Zsc hh.1 hh.2];have ha:0≤h / 4294967296∧h / 4294967296≤4294967295:=by omega
 have hb:0≤h % 4294967296∧h % 4294967296≤4294967295:=by omega
 generalize h / 4294967296=a at ha ⊢;generalize h % 4294967296=b at hb ⊢;have p1:0≤a * y:=Int.mul_nonneg ha.1 hy.1;have p2:a * y≤4294967295 * y:=Int.mul_le_mul_of_nonneg_right ha.2 hy.1;have p3:0≤b * y:=Int.mul_nonneg hb.1 hy.1;have p4:b * y≤4294967295 * y:=Int.mul_le_mul_of_nonneg_right hb.2 hy.1;generalize a * y=A at p1 p2 ⊢;generalize b * y=B at p3 p4 ⊢;rw[Int.mul_zero,Int.mul_zero,wu 0 (by omega),wu B (by omega),wu A (by omega)];have f4:B.fdiv 4294967296=B / 4294967296:=by rw[Int.fdiv_eq_ediv_of_nonneg _ (by omega)]
 rw[f4,wu (A+B / 4294967296) (by omega),Zsc (by omega) (by omega)];have f5:(A+B / 4294967296).fdiv 4294967296=(A+B / 4294967296) / 4294967296:=by rw[Int.fdiv_eq_ediv_of_nonneg _ (by omega)]
 rw[f5,Int.add_zero,Int.zero_add,wu ((A+B / 4294967296) % 4294967296) (by omega)];have f6:((A+B / 4294967296) % 4294967296).fdiv 4294967296=0:=by rw[Int.fdiv_eq_ediv_of_nonneg _ (by omega)]; omega
 rw[f6,wu ((A+B / 4294967296) / 4294967296) (by omega),Int.add_zero,wu ((A+B / 4294967296) / 4294967296) (by omega)];omega
theorem Zsd (k:Arr 2) (l:List Int):0≤Zr0 k l∧Zr0 k l≤18446744073709551615:=ZnB _ _ _ _
theorem ZoO (p:Nat) (V:Int):∀ (l:List Int) (n:Nat) (s:Int),ZnA s l→(∀ x∈l,x≤V)→0≤s→(V-s) / 2 ^ p≤65536→(n:Int)+(V-s) / 2 ^ p+l.length * (1+p)≤1600000→∃ B,Zhl p n s l=some B
 | [],n,s,_,_,_,_,_=>⟨[],rfl⟩
 | v :: l,n,s,hc,hV,hs,h1,h2=>by
  obtain⟨hsv,hc⟩:=hc;have hv:=hV v (by simp);have hp:(0:Int)<2 ^ p:=Int.pow_pos (by decide);have e0:0≤(v-s) / 2 ^ p:=Int.ediv_nonneg (by omega) (by omega);have e1:(v-s) / 2 ^ p≤(V-s) / 2 ^ p:=Int.ediv_le_ediv hp (by omega)
  have e2:(v-s) / 2 ^ p+(V-v) / 2 ^ p≤(V-s) / 2 ^ p:=by
   apply(Int.le_ediv_iff_mul_le hp).2
   have a1:=Int.ediv_mul_le (v-s) (b:=2 ^ p) (by omega);have a2:=Int.ediv_mul_le (V-v) (b:=2 ^ p) (by omega);rw[Int.add_mul];omega
  have e3:0≤(V-v) / 2 ^ p:=Int.ediv_nonneg (by omega) (by omega);rw[List.length_cons] at h2
  have h3:((l.length+1:Nat):Int) * (1+p)=l.length * (1+p)+(1+p):=by
   rw[Int.natCast_add,Int.add_mul];simp
  rw[h3] at h2;have h4:(0:Int)≤l.length * (1+p):=Int.mul_nonneg (by omega) (by omega);have hn:((n+((v-s) / 2 ^ p).toNat+1+p:Nat):Int)=n+(v-s) / 2 ^ p+1+p:=by omega
  obtain⟨B,hB⟩:=ZoO p V l (n+((v-s) / 2 ^ p).toNat+1+p) v hc (fun x hx=>hV x (by simp[hx])) (by omega) (by omega) (by rw[hn]; omega);rw[Zhl,if_neg (by omega),hB];exact⟨_,rfl⟩
theorem Zqa (l:List (List Int)):(dfs [] l).length≤l.length:=by
 have:=dfs_len l [];simpa using this
theorem ZuS {k:Arr 2}{l:List (List Int)}{r:Tapi_Filter×Int}(hl:l.length≤4096) (h:BR k l 10 1533 r):r.2=0∧Byt r.1.2∧r.1.1=((dfs [] l).length:Int)∧DR r.1 10=(srt ((dfs [] l).map (Zhm k r.1.1 1533)),0):=by
 rcases Zxy hl (by omega) (by omega) h with hr | hr
 ·exfalso
  have hd:=Zqa l;rcases h with ⟨a1,_⟩ | ⟨_,a2,_⟩ | ⟨_,_,h⟩
  ·omega
  ·omega
  ·rcases h with ⟨a1,_⟩ | ⟨_,a2,_⟩ | ⟨_,_,_,a4,_⟩ | ⟨h1,_,_,h4,h5⟩
   ·rw[ZbL] at a1; simp at a1; omega
   ·omega
   ·exact absurd (ZqZ _) a4
   ·have hn:IntKind.u64.wrap ((IntKind.u64.wrap ((dfs [] l).length:Int)) * 1533)=((dfs [] l).length:Int) * 1533:=by
     rw[wu ((dfs [] l).length:Int) (by omega),wu (((dfs [] l).length:Int) * 1533) (by omega)]
    have hval:∀ x∈srt ((dfs [] l).map (Zhm k ((dfs [] l).length:Int) 1533)),x≤4096 * 1533:=by
     intro x hx;obtain⟨y,_,rfl⟩:=List.mem_map.1 ((Zp2 _).mem_iff.1 hx);unfold Zhm;rw[hn];have:=ZwD (Zsd k y) (y:=((dfs [] l).length:Int) * 1533) (by omega);omega
    have hu:=Zn4 (Zn3 k ((dfs [] l).length:Int) 1533 (dfs [] l));have hlen:(srt ((dfs [] l).map (Zhm k ((dfs [] l).length:Int) 1533))).length≤4096:=by rw[ZbL]; simp; omega
    obtain⟨B,hB⟩:=ZoO 10 (4096 * 1533) (srt ((dfs [] l).map (Zhm k ((dfs [] l).length:Int) 1533))) 0 0 (asc_chain _ 0 (fun h0=>(hu _ (List.getElem_mem h0)).1) h4) hval (by omega) (by decide) (by
     have:((4096 * 1533:Int)-0) / 2 ^ 10=6132:=by decide
     rw[this];rw[show((1:Int)+((10:Nat):Int))=11 from rfl]
     omega)
    rw[show(10:Int).toNat=10 from rfl,hB] at h5;obtain⟨y,hy,_⟩:=h5;rw[hy] at hr;simp at hr
 ·exact hr
end
section
open Go.Sort
set_option maxRecDepth 100000
theorem ZuM {l:List Int}(h:l.length≤12):Ym l=some (srt l):=by
 obtain⟨h2,h3⟩:=insertionSort_holds swo_ltInt l.toArray 0 l.length (by omega) (by simp);have hu:=sorted_unique_holds swo_ltInt (fun x y h1 h2=>by simp only[ltInt,decide_eq_false_iff_not] at h1 h2; omega) l.toArray (insertionSort ltInt l.toArray 0 l.length) (by simpa using h2) (by simpa using h3)
 have hd:(insertionSort ltInt l.toArray 0 l.length).toList=srt l:=by
  rw[hu,srt];show l.mergeSort _=_
  congr 1
  funext x y
  simp[ltInt]
  by_cases h:x≤y
  ·simp[h]
   try omega
  ·simp[h]
   try omega
 have hi:=Zwp l.toArray 0 l.length (by simp) (by omega) (by simp; omega);rw[hd] at hi
 have hb:∀ (rf:List Int→Int→Int→Int→Option (List Int)) (c:Int),Yr rf l 0 (l.length:Int) c=some (srt l):=by
  intro rf c;unfold Yr;refine ZbK ?_;simp only[XR];rw[wi _ (by omega),if_pos (by omega)];have hi':Zt l 0 (l.length:Int)=some (srt l):=hi;rw[hi',Za,Zj (ZbL l),Zj (ZbL l)]
 have hf:∀ c:Int,YA l 0 (l.length:Int) c=some (srt l):=fun c=>by
  refine Zvi (fun n x hx=>?_) ⟨1,hb _ c⟩;cases n with
  | zero=>simp[Lslices_pdqsortOrdered_of_uint64w_n] at hx
  | succ n =>
   rw[Lslices_pdqsortOrdered_of_uint64w_n,hb] at hx;exact(Option.some.inj hx).symm
 rw[Ym,Zny (by omega),Zwq (by omega),Za,hf,Za,Zj (ZbL l),Zj (ZbL l)]
theorem Zse (k:Arr 2) (l:List (List Int)) (n m:Int) (hi:ZnC l) (hl:l.length≤12):Zb8 k l n m=some (srt (l.map (Zhm k n m))):=by
 rw[Zb8]
 obtain⟨r,h1,rfl⟩:=Zak (step:=ZbW l k n m) (fun q s=>∃ i:Nat,s=((i:Int),(l.take i).map (Zhm k n m))∧i≤l.length∧q=l.length-i) (fun r=>r=srt (l.map (Zhm k n m))) (by
  rintro q s ⟨i,rfl,hil,rfl⟩
  by_cases h:i<l.length
  ·refine .inl ⟨l.length-(i+1),(((i+1:Nat):Int),(l.take (i+1)).map (Zhm k n m)),by omega,?_,i+1,rfl,by omega,rfl⟩
   simp only[ZbW,if_pos (show(i:Int)<(l.length:Int) by omega)];rw[Zi h,Zwy k _ (hi _ (List.getElem_mem h)).2,Za,Zuw,Za,Zj (by simp; omega),wS (by omega),ZoX _ _ _ h];rfl
  ·refine .inr ⟨_,?_,rfl⟩
   simp only[ZbW,if_neg (show ¬ (i:Int)<(l.length:Int) by omega),ZdL];rw[List.take_of_length_le (by omega),ZuM (by simp; omega),Za,Zj (ZbL _)]
   rfl) _ (0,[]) ⟨0,rfl,by omega,rfl⟩
 exact h1
theorem Ztx (k:Arr 2) (l:List (List Int)) (hi:ZnC l) (hl:l.length≤12):∃ r,ZcN k l 10 1533=some r∧BR k l 10 1533 r:=by
 rw[ZcN,if_neg (by omega),if_neg (by omega)];refine Zak (step:=Za3 l k 1533 10) (fun q s=>∃ (i:Nat) (mp:List (ByteArray×Bool)),s=((i:Int),mp,dfs [] (l.take i))∧i≤l.length∧(∀ x,Byt x→((Zcc (Zjw x) mp).getD false=true↔x∈dfs [] (l.take i)))∧q=l.length-i) _ ?_ _ _ ⟨0,[],rfl,by omega,by intro x hx; simp[Zcc,dfs],rfl⟩;rintro q s ⟨i,mp,rfl,hil,hmp,rfl⟩
 have hdl:=dfs_len (l.take i) [];by_cases h:i<l.length
 ·have hx:=(hi _ (List.getElem_mem h)).1
  by_cases hq:l[i]∈dfs [] (l.take i)
  ·refine .inl ⟨l.length-(i+1),(((i+1:Nat):Int),mp,dfs [] (l.take (i+1))),by omega,?_,i+1,mp,rfl,by omega,?_,rfl⟩
   ·simp only[Za3,if_pos (show(i:Int)<(l.length:Int) by omega)]
    rw[Zi h,if_neg (by simp[(hmp _ hx).2 hq]),Za2,wS (by omega),Zko _ _ h,dfs_snoc,if_pos hq]
   ·intro x hb
    rw[hmp x hb,Zko _ _ h,dfs_snoc,if_pos hq]
  ·refine .inl ⟨l.length-(i+1),(((i+1:Nat):Int),ZeG (Zjw l[i]) true mp,dfs [] (l.take (i+1))),by omega,?_,i+1,_,rfl,by omega,?_,rfl⟩
   ·simp only[Za3,if_pos (show(i:Int)<(l.length:Int) by omega)]
    rw[Zi h,if_pos (fun e=>hq ((hmp _ hx).1 e)),Zj (by simp at hdl; omega),Za2,wS (by omega),Zko _ _ h,dfs_snoc,if_neg hq]
   ·intro x hb
    rw[Zr1,Zko _ _ h,dfs_snoc,if_neg hq];by_cases e:x=l[i]
    ·subst e; simp
    ·rw[if_neg (fun e2=>e (Zte hb hx e2)),hmp x hb]
     simp[e]
 ·have hdi:=Ztf hi
  have hdl2:=dfs_len l [];simp only[List.length_nil,Nat.zero_add] at hdl2;obtain⟨r,g1,g2,g3⟩:=Zus (srt ((dfs [] l).map (Zhm k ((dfs [] l).length:Int) 1533))) 10 (Zn4 (Zn3 _ _ _ _)) (by rw[ZbL]; simp; omega);refine .inr ⟨r,?_,.inr (.inr ⟨by omega,by omega,g3⟩)⟩;simp only[Za3,if_neg (show ¬ (i:Int)<(l.length:Int) by omega),Zeb];rw[List.take_of_length_le (by omega),Zse k _ _ 1533 hdi (by omega),Za,g1,Za];rfl
theorem ZwE {b:Tapi_Block}(h:Zl9 b) (hb:ZuF b) (hl:(elS b).length≤12) (he:(Zlq b).2=0):∃ r,ZdW b=some r∧BR (Zr3 (Zm7 b.1)) (elS b) 10 1533 r:=by
 obtain⟨r,r1,r3⟩:=Ztx (Zr3 (Zm7 b.1)) (elS b) (Zti h hb) hl;unfold ZdW;rw[Zth,Za];refine⟨r,?_,r3⟩;rw[if_neg (by simp[he]),ZuC,Za,ZvF,Za,Zqv h,Za,r1];rfl
theorem Zsf {v:Int}(h:0≤v∧v≤255):Tot (Zek v) PrmOk:=by
 unfold Zek;have e:∃ x,ZhL (zA 4)=some x∧dg x:=⟨_,rfl,Zfc (Zfc (Zfc (Zfc dg_zero (by omega) (Zh2 _ _ _)) (by omega) (Zh2 _ _ _)) (by omega) (Zh2 _ _ _)) (by omega) (Zh2 _ _ _)⟩
 obtain⟨x,e,hx⟩:=e;rw[e,Za,Zbw h.1,Zbw h.1,wi (v % 5) (by omega),wi (v % 3) (by omega),wi (3+v % 5) (by omega),wi (4+v % 3) (by omega)];refine(Zmv hx 1).bind fun y hy=>Zb ⟨⟨by dsimp only; omega,by dsimp only; omega⟩,hy,by dsimp only; omega,by dsimp only; omega,rfl,by dsimp only; omega,by dsimp only; omega⟩
theorem Zty {v:Int}(h:0≤v∧v≤255):Tot (Zfv v) (Zp8 0):=by
 unfold Zfv;refine(Zsf h).bind fun p hp=>?_
 have h1:Tot (Zel p) fun r=>Zn7 r.1∧r.1.1=0:=by
  unfold Zel;refine(Zd3 hp).bind fun y _=>Zf (fun _=>Zb ⟨⟨by simp,by simp⟩,rfl⟩) (fun _=>?_)
  rw[Zhw,Za];exact Zb ⟨⟨by simp,by simp⟩,rfl⟩
 have h2:Tot (Zem p) fun r=>Zmb r.1:=by
  unfold Zem;refine(Zd3 hp).bind fun y _=>Zf (fun _=>Zb ⟨⟨by simp,by simp⟩,by simp⟩) (fun _=>?_)
  rw[Zhw,Za];exact Zb ⟨hp.bits,by simp⟩
 refine h1.bind fun a ha=>h2.bind fun c hc=>Zb ⟨hp,by simp,?_,?_,by simp⟩
 ·intro l hl
  obtain rfl:=List.mem_singleton.1 hl;exact⟨ha.1,by omega,by omega⟩
 ·intro l hl
  obtain rfl:=List.mem_singleton.1 hl;exact hc
theorem Ztz {v:Int}(h:0≤v∧v≤255){l:List Int}(hl:∀ a∈l,0≤a∧a≤255) (hn:l.length≤1000):Tot (Zer v l) (Zp8 l.length):=by
 unfold Zer;refine(Zty h).bind fun w hw=>(ZuL (k:=0) (w:=(w.1,w.2.1,w.2.2.1,w.2.2.2.1,w.2.2.2.2)) hw hl (by omega)).bind fun r hr=>?_
 have:=hr.1;rw[Nat.zero_add] at this;exact Zb this
end
end Go.Lc
