import Derived.Test.YthpkpciceodioaaGreatDoorLcG3
import Derived.Test.YthpkpciceodioaaGreatDoorLcG4
import Derived.Test.YthpkpciceodioaaGreatDoorLcG5
import Derived.Test.YthpkpciceodioaaGreatDoorLcG1
import Derived.Test.YthpkpciceodioaaGreatDoorAvP3
section
namespace Go.Lc
open Go.RowKit
open Go.Av
set_option linter.unusedVariables false
set_option linter.unusedSimpArgs false
set_option maxRecDepth 100000
def leV:List Int→Int
 | []=>0
 | x :: l=>x+256 * leV l
theorem Zbb (x:Int):IntKind.u8.wrap x=x % 256:=rfl
theorem Zmm (n:Int) (k:Nat):Byt (ZU n k):=by
 intro x hx;obtain⟨i,_,rfl⟩:=List.mem_map.1 hx;rw[Zbb];omega
def rdS (d:List Int) (a:Int) (k:Nat):Int×Int×Int :=
 if a<0∨(d.length:Int)<a then(0,0,5) else if (d.length:Int)-a<k then(0,0,1) else(leV ((d.drop a.toNat).take k),a+k,0)
end Go.Lc
end
section
namespace Go.Lc
open Go.RowKit
open Go.Av
set_option linter.unusedVariables false
set_option linter.unusedSimpArgs false
set_option maxRecDepth 100000
theorem ZlM {a b:List Int}(ha:Byt a) (hb:Byt b):Byt (a++b):=fun x hx=>(List.mem_append.1 hx).elim (ha x) (hb x)
end Go.Lc
end
section
namespace Go.Lc
open Go.RowKit
open Go.Av
set_option linter.unusedVariables false
noncomputable def idS (t:Tapi_Tx):Arr 32:=if ZK t=true then X7 (X7 (Yu t false)).l else zA 32
theorem Ztl {t:Tapi_Tx}(h:ZK t=true):(Yu t false).length≤100000000:=by
 have h1:=Zqf (Zjd h);have h2:=ZwI (t:=t) (w:=false);omega
theorem Zri (t:Tapi_Tx):ZeZ t=some (idS t):=by
 unfold ZeZ idS;rw[Za2,Za];by_cases h:ZK t=true
 ·have hn:¬ ¬ ZK t=true:=by simp[h]
  rw[if_neg hn,if_pos h,ZiD (Zjc h),Za,ZlK (Ztl h)];rfl
 ·rw[if_pos h,if_neg h]
end Go.Lc
end
section
namespace Go.Lc
open Go.RowKit
open Go.Av
set_option linter.unusedVariables false
section
variable {l:List Tapi_Entry}{t:Tapi_Tx}{f:Int}
end
end Go.Lc
end
section
namespace Go.Lc
open Go.RowKit
open Go.Av
set_option linter.unusedVariables false
set_option linter.unusedSimpArgs false
set_option maxRecDepth 100000
theorem ZeW {α β ρ:Type}{step:Int×List β→Option ((Int×List β) ⊕ ρ)}(l:List α) (f:α→List β) (acc:List β){x:Option ρ}
  (h:∀ i (hi:i<l.length),step ((i:Int),acc++(l.take i).flatMap f)=some (.inl (((i+1:Nat):Int),acc++(l.take i).flatMap f++f l[i])))
  (he:step ((l.length:Int),acc++l.flatMap f)=x.map .inr):Zd step (0,acc)=x:=by
 have key:=ZI (step:=step) (fun i=>((i:Int),acc++(l.take i).flatMap f)) l.length (x:=x) ?_ ?_
 ·simpa using key
 ·intro i hi
  rw[h i hi,XT f hi,List.append_assoc]
 ·simpa using he
def Za4 (h:Tapi_Header):List Int:=ZU (IntKind.u64.wrap h.1) 4++h.2.1.l++h.2.2.1.l++ZU (IntKind.u64.wrap h.2.2.2.1) 4++ZU (IntKind.u64.wrap h.2.2.2.2.1) 4++ZU (IntKind.u64.wrap h.2.2.2.2.2) 4
theorem ZbF (h:Tapi_Header):(Za4 h).length=80:=by simp[Za4,h.2.1.hl,h.2.2.1.hl]
theorem ZiF (h:Tapi_Header):YO h=some (Za4 h):=by
 unfold YO;have l1:=h.2.1.hl;have l2:=h.2.2.1.hl;rw[ZeT (by simp),Za,List.nil_append,ZlH (by simp),Za,ZlH (by simp[l1]),Za,ZeT (by simp[l1,l2]),Za,ZeT (by simp[l1,l2]),Za,ZeT (by simp[l1,l2]),Za];rfl
theorem Zhr (h:Tapi_Header):YP h=some (Za4 h):=by
 unfold YP;have l1:=h.2.1.hl;have l2:=h.2.2.1.hl;rw[Zba (by simp),Za,List.nil_append,Zgv (by simp),Za,Zgv (by simp[l1]),Za]
 have h0:ZA h (0,ZU (IntKind.u64.wrap h.1) 4++h.2.1.l++h.2.2.1.l)=some (.inl (1,ZU (IntKind.u64.wrap h.1) 4++h.2.1.l++h.2.2.1.l++ZU (IntKind.u64.wrap h.2.2.2.1) 4)):=by
  simp only[ZA];rw[if_pos (by omega),show(0:Int)=((0:Nat):Int) from rfl,Yt (by omega)];simp only[List.getElem?_cons_zero,Za];rw[Zba (by simp[l1,l2]),Za];rfl
 have h1:ZA h (1,ZU (IntKind.u64.wrap h.1) 4++h.2.1.l++h.2.2.1.l++ZU (IntKind.u64.wrap h.2.2.2.1) 4)=some (.inl (2,ZU (IntKind.u64.wrap h.1) 4++h.2.1.l++h.2.2.1.l++ZU (IntKind.u64.wrap h.2.2.2.1) 4++ZU (IntKind.u64.wrap h.2.2.2.2.1) 4)):=by
  simp only[ZA];rw[if_pos (by omega),show(1:Int)=((1:Nat):Int) from rfl,Yt (by omega)];simp only[List.getElem?_cons_zero,List.getElem?_cons_succ,Za];rw[Zba (by simp[l1,l2]),Za];rfl
 have h2:ZA h (2,ZU (IntKind.u64.wrap h.1) 4++h.2.1.l++h.2.2.1.l++ZU (IntKind.u64.wrap h.2.2.2.1) 4++ZU (IntKind.u64.wrap h.2.2.2.2.1) 4)=some (.inl (3,Za4 h)):=by
  simp only[ZA];rw[if_pos (by omega),show(2:Int)=((2:Nat):Int) from rfl,Yt (by omega)];simp only[List.getElem?_cons_zero,List.getElem?_cons_succ,Za];rw[Zba (by simp[l1,l2]),Za];rfl
 rw[Yb h0,Yb h1,Yb h2];exact Xh (by simp[ZA,ZbL])
noncomputable def Zg4 (h:Tapi_Header):Arr 32:=X7 (X7 (Za4 h)).l
theorem Zn8 (h:Tapi_Header):ZaO h=some (Zg4 h):=by
 unfold ZaO;rw[ZiF,Za,Zuj (by rw[ZbF]; omega)];rfl
theorem Zd8 (h:Tapi_Header):Yz h=some (Zg4 h):=by
 unfold Yz;rw[Zhr,Za,ZlK (by rw[ZbF]; omega)];rfl
noncomputable def Zm3 (a:Arr 32):Arr 2:=⟨[wdv (a.l.take 8),wdv ((a.l.drop 8).take 8)],rfl⟩
theorem Zo9 (a:Arr 32):Zfc a=some (Zm3 a):=by
 unfold Zfc;rw[Zkx _ (by simp),Za,Zkx _ (by simp)];rfl
theorem Zm4 (t:Tapi_Tx) (w:Bool):ZdZ t w=some (if ZK t=true then(Yu t w,0) else([],4)):=by
 unfold ZdZ;rw[Zo3,Za];by_cases h:ZK t=true
 ·rw[if_neg (by simp[h]),if_pos h,ZmV (Zjc h)]
  rfl
 ·rw[if_pos h,if_neg h]
theorem Zpa (t:Tapi_Tx) (w:Bool):Zbj t w=some (if ZK t=true then(Yu t w,0) else([],4)):=by
 unfold Zbj;rw[Za2,Za];by_cases h:ZK t=true
 ·rw[if_neg (by simp[h]),if_pos h,ZiD (Zjc h)]
  rfl
 ·rw[if_pos h,if_neg h]
def Zfl (b:Tapi_Block):List Int:=Za4 b.1++XE (b.2.length:Int)++b.2.flatMap fun t=>Yu t true
theorem ZbV {t:Tapi_Tx}(h:ZK t=true):(Yu t true).length≤20000:=by
 classical
 unfold ZK at h;simp only[decide_eq_true_eq] at h;exact h.2
theorem YW {α β:Type}(f:α→List β) (c:Nat):∀ (l:List α),(∀ a∈l,(f a).length≤c)→(l.flatMap f).length≤c * l.length
 | [],_=>by simp
 | a :: l,h=>by
  have h1:=h a (by simp);have h2:=YW f c l fun x hx=>h x (by simp[hx])
  rw[List.flatMap_cons,List.length_append,List.length_cons,Nat.mul_succ];omega
noncomputable def ZhH (b:Tapi_Block):List Int×Int:=by
 classical exact if 256<b.2.length then([],4) else if ∃ t∈b.2,¬ ZK t=true then([],4) else if 100000<(Zfl b).length then([],4) else(Zfl b,0)
theorem Zpb {b:Tapi_Block}(h:b.2.length≤256) (hf:∀ t∈b.2,ZK t=true) (i:Nat):(Za4 b.1++XE (b.2.length:Int)++(b.2.take i).flatMap fun t=>Yu t true).length≤10000000:=by
 have h1:=YW (fun t=>Yu t true) 20000 (b.2.take i) fun t ht=>ZbV (hf t (List.mem_of_mem_take ht))
 have h2:=ZaL (b.2.length:Int);have h3:20000 * (b.2.take i).length≤20000 * 256:=Nat.mul_le_mul_left _ (by rw[List.length_take]; omega);rw[List.length_append,List.length_append,ZbF];omega
theorem ZpT (b:Tapi_Block):Zbi b=some (ZhH b):=by
 classical
 unfold Zbi ZhH;by_cases h:256<b.2.length
 ·rw[if_pos (by omega),if_pos h]
 rw[if_neg (by omega),if_neg h,ZiF,Za,ZdQ (by omega),Zkv (by omega) (by rw[ZbF]; omega),Za]
 have hpre:∀ i,(∀ t∈b.2.take i,ZK t=true)→(Za4 b.1++XE (b.2.length:Int)++(b.2.take i).flatMap fun t=>Yu t true).length≤10000000:=by
  intro i hi;have h1:=YW (fun t=>Yu t true) 20000 (b.2.take i) fun t ht=>ZbV (hi t ht)
  have h2:=ZaL (b.2.length:Int);have h3:20000 * (b.2.take i).length≤20000 * 256:=Nat.mul_le_mul_left _ (by rw[List.length_take]; omega);rw[List.length_append,List.length_append,ZbF];omega
 have key:=Zel (step:=Y3 b) (fun i=>((i:Int),Za4 b.1++XE (b.2.length:Int)++(b.2.take i).flatMap fun t=>Yu t true)) b.2.length (fun i=>∃ h:i<b.2.length,¬ ZK b.2[i]=true) (some ([],4)) (some (if 100000<(Zfl b).length then([],4) else(Zfl b,0))) ?_ ?_ ?_ rfl
 ·have e:((∃ i,i<b.2.length∧∃ h:i<b.2.length,¬ ZK b.2[i]=true)↔∃ t∈b.2,¬ ZK t=true):=by
   constructor
   ·rintro⟨i,_,hi,h⟩
    exact⟨_,List.getElem_mem hi,h⟩
   ·rintro⟨t,ht,h⟩
    obtain⟨i,hi,rfl⟩:=List.getElem_of_mem ht;exact⟨i,hi,hi,h⟩
  simp only[List.take_zero,List.flatMap_nil,List.append_nil] at key;rw[show((0:Nat):Int)=0 from rfl] at key;rw[key];by_cases hb:∃ t∈b.2,¬ ZK t=true
  ·rw[if_pos (e.2 hb),if_pos hb]
  ·rw[if_neg (fun x=>hb (e.1 x)),if_neg hb]
 ·intro i hi hp hn
  have hf:ZK b.2[i]=true:=Decidable.byContradiction fun c=>hn ⟨hi,c⟩
  have hl:=hpre i fun t ht=>by
   obtain⟨j,hj,rfl⟩:=List.getElem_of_mem ht;rw[List.length_take] at hj;rw[List.getElem_take];exact Decidable.byContradiction fun c=>hp j (by omega) ⟨by omega,c⟩
  have hb:=ZbV hf;simp only[Y3];rw[if_pos (by omega),Zh hi,Zm4,Za,if_pos hf];dsimp only;rw[if_neg (by simp),Zj (by omega),Zo hi (by omega),XT _ hi,List.append_assoc _ _ (Yu _ _)]
 ·rintro i hi hp ⟨_,hf⟩
  simp only[Y3];rw[if_pos (by omega),Zh hi,Zm4,Za,if_neg hf];rfl
 ·intro _
  simp only[Y3,List.take_length];rw[if_neg (by omega)];unfold Zdp;rw[show(Za4 b.1++XE (b.2.length:Int)++b.2.flatMap fun t=>Yu t true)=Zfl b from rfl];by_cases hc:100000<(Zfl b).length
  ·rw[if_pos (by omega),if_pos hc]
  ·rw[if_neg (by omega),if_neg hc]
theorem Zmn {b:Tapi_Block}(h:b.2.length≤256) (hf:∀ t∈b.2,ZK t=true):Zbk b=some (Zfl b):=by
 unfold Zbk;rw[Zhr,Za,ZdQ (by omega),Zi9 (by omega) (by rw[ZbF]; omega),Za];refine ZeW b.2 (fun t=>Yu t true) _ ?_ ?_
 ·intro i hi
  have hl:=Zpb h hf i;have hfi:=hf _ (List.getElem_mem hi);have hb:=ZbV hfi;simp only[ZbD];rw[if_pos (by omega),Zh hi,Zpa,Za,if_pos hfi];dsimp only;rw[Zj (by omega),Zo hi (by omega)]
 ·simp only[ZbD]
  rw[if_neg (by omega)];rfl
noncomputable def ZiG (b:Tapi_Block):Bool:=by classical exact decide ((ZhH b).2=0)
theorem Zrj (b:Tapi_Block):ZcP b=some (ZiG b):=by
 classical
 unfold ZcP ZiG ZhH;by_cases h:256<b.2.length
 ·rw[if_pos (by omega),if_pos h]
  rfl
 rw[if_neg (by omega),if_neg h];by_cases hb:∃ t∈b.2,¬ ZK t=true
 ·rw[if_pos hb]
  have key:=Zct (step:=ZZ b) (fun i=>(i:Int)) b.2 (fun t=>¬ ZK t=true) (some false) (XZ b) ?_ ?_ ?_ (s:=((0:Nat):Int)) rfl
  ·rw[show((0:Nat):Int)=0 from rfl,if_pos hb] at key
   rw[key];rfl
  ·intro i hi hn
   simp only[ZZ];rw[if_pos (by omega),Zh hi,Za2,Za,if_neg hn,Zo hi (by omega)]
  ·intro i hi hn
   simp only[ZZ];rw[if_pos (by omega),Zh hi,Za2,Za,if_pos hn];rfl
  ·simp only[ZZ]
   rw[if_neg (by omega)]
 ·rw[if_neg hb]
  have hf:∀ t∈b.2,ZK t=true:=fun t ht=>Decidable.byContradiction fun c=>hb ⟨t,ht,c⟩
  have key:=Zct (step:=ZZ b) (fun i=>(i:Int)) b.2 (fun t=>¬ ZK t=true) (some false) (XZ b) ?_ ?_ ?_ (s:=((0:Nat):Int)) rfl
  ·rw[show((0:Nat):Int)=0 from rfl,if_neg hb] at key
   rw[key];unfold XZ;rw[Zmn (by omega) hf,Za];by_cases hc:100000<(Zfl b).length
   ·rw[if_pos hc]
    simp
    omega
   ·rw[if_neg hc]
    simp
    omega
  ·intro i hi hn
   simp only[ZZ];rw[if_pos (by omega),Zh hi,Za2,Za,if_neg hn,Zo hi (by omega)]
  ·intro i hi hn
   simp only[ZZ];rw[if_pos (by omega),Zh hi,Za2,Za,if_pos hn];rfl
  ·simp only[ZZ]
   rw[if_neg (by omega)]
def ZbG (o:Tapi_Output):List (List Int):=if 0<o.2.length then[o.2] else[]
def inE (x:Tapi_Input):List (List Int):=[ZeU x.1]
def txE (t:Tapi_Tx):List (List Int):=t.2.2.1.flatMap ZbG++if cbS t=true then[] else t.2.1.flatMap inE
def elS (b:Tapi_Block):List (List Int):=b.2.flatMap txE
def ZiH (b:Tapi_Block):Prop:=b.2.length≤256∧∀ t∈b.2,t.2.1.length≤100∧t.2.2.1.length≤100∧∀ o∈t.2.2.1,o.2.length≤100000
theorem ZgB (o:Tapi_Output):(ZbG o).length≤1:=by unfold ZbG; split <;> simp
theorem Zpc {t:Tapi_Tx}(h:t.2.1.length≤100∧t.2.2.1.length≤100):(txE t).length≤200:=by
 have h1:=YW ZbG 1 t.2.2.1 fun o _=>ZgB o
 have h2:=YW inE 1 t.2.1 fun o _=>by simp[inE]
 unfold txE;split <;> simp only[List.length_append,List.length_nil] <;> omega
theorem Zpd {b:Tapi_Block}(h:ZiH b) (i:Nat):((b.2.take i).flatMap txE).length≤51200:=by
 have h1:=YW txE 200 (b.2.take i) fun t ht=>Zpc ⟨(h.2 t (List.mem_of_mem_take ht)).1,(h.2 t (List.mem_of_mem_take ht)).2.1⟩
 have h2:=h.1;rw[List.length_take] at h1;omega
theorem Zn9 {t:Tapi_Tx}(h:t.2.1.length≤100∧t.2.2.1.length≤100∧∀ o∈t.2.2.1,o.2.length≤100000) (acc:List (List Int)) (ha:acc.length≤1000000) (p:Int)
  {step:Int×List (List Int)→Option ((Int×List (List Int)) ⊕ ((Int×List (List Int)) ⊕ List (List Int)))}{K2:List (List Int)→Option ((Int×List (List Int)) ⊕ List (List Int))}{Cl:List Int→Option (List Int)}
  (hs:∀ p108 p109,step (p108,p109)=if p108<(t.2.2.1.length:Int) then(idx (t.2.2.1) (p108)).bind fun x131=>(if 0<(x131.2.length:Int) then(Cl x131.2).bind fun y135=>(chk (p109.length+1≤5864062014805)).bind fun _=>some (.inl (IntKind.i64.wrap (p108+1),p109++[y135])) else some (.inl (IntKind.i64.wrap (p108+1),p109))) else(K2 p109).map Sum.inr)
  (hC:∀ s:List Int,s.length≤100000→Cl s=some s):Zd step (0,acc)=K2 (acc++t.2.2.1.flatMap ZbG):=by
 refine ZeW t.2.2.1 ZbG acc ?_ ?_
 ·intro i hi
  have hl:=YW ZbG 1 (t.2.2.1.take i) fun o _=>ZgB o
  rw[List.length_take] at hl;rw[hs,if_pos (by omega),Zh hi,Zo hi (by omega)];unfold ZbG;by_cases h0:0<t.2.2.1[i].2.length
  ·rw[if_pos (by omega),if_pos h0,hC _ (h.2.2 _ (List.getElem_mem hi)),Za]
   refine Zj ?_;have:(acc++(t.2.2.1.take i).flatMap ZbG).length≤1000100:=by rw[List.length_append]; omega
   unfold ZbG at this;omega
  ·rw[if_neg (by omega),if_neg h0,List.append_nil]
 ·rw[hs,if_neg (by omega)]
theorem Zpe {t:Tapi_Tx}(h:t.2.1.length≤100∧t.2.2.1.length≤100∧∀ o∈t.2.2.1,o.2.length≤100000) (acc:List (List Int)) (ha:acc.length≤1000000)
  {step:Int×List (List Int)→Option ((Int×List (List Int)) ⊕ ((Int×List (List Int)) ⊕ List (List Int)))}{K3:List (List Int)→Option ((Int×List (List Int)) ⊕ List (List Int))}{Pt:Tapi_OutPoint→Option (List Int)}
  (hs:∀ p123 p124,step (p123,p124)=if p123<(t.2.1.length:Int) then(idx (t.2.1) (p123)).bind fun x128=>(Pt x128.1).bind fun y129=>(chk (p124.length+1≤5864062014805)).bind fun _=>some (.inl (IntKind.i64.wrap (p123+1),p124++[y129])) else(K3 p124).map Sum.inr)
  (hP:∀ o,Pt o=some (ZeU o)):Zd step (0,acc)=K3 (acc++t.2.1.flatMap inE):=by
 refine ZeW t.2.1 inE acc ?_ ?_
 ·intro i hi
  have hl:=YW inE 1 (t.2.1.take i) fun o _=>by simp[inE]
  rw[List.length_take] at hl;have:(acc++(t.2.1.take i).flatMap inE).length≤1000100:=by rw[List.length_append]; omega
  rw[hs,if_pos (by omega),Zh hi,Zo hi (by omega),hP,Za,Zj (by omega)];rfl
 ·rw[hs,if_neg (by omega)]
theorem ZnG {b:Tapi_Block}(h:ZiH b):Xm b=some (elS b):=by
 unfold Xm;refine ZeW b.2 txE [] ?_ ?_
 ·intro i hi
  have hp:=Zpd h i;have hb:=h.1;have ht:=h.2 _ (List.getElem_mem hi);simp only[Zae,List.nil_append];rw[if_pos (by omega),Zh hi];generalize hacc:(b.2.take i).flatMap txE=acc at hp ⊢;refine(Zn9 ht acc (by omega) (i:Int) (K2:=YN b.2[i] (i:Int)) (Cl:=ZM) (fun p q=>rfl) (fun s hs=>?_)).trans ?_
  ·unfold ZM
   exact Zj (by omega)
  ·have hl:=YW ZbG 1 b.2[i].2.2.1 fun o _=>ZgB o
   unfold YN;rw[Zqg,Za,Zo hi (by omega),txE];by_cases hc:cbS b.2[i]=true
   ·rw[if_pos hc,if_pos hc,List.append_nil]
   ·rw[if_neg hc,if_neg hc]
    refine(Zpe ht _ (by rw[List.length_append]; omega) (K3:=YM (i:Int)) (Pt:=ZdX) (fun p q=>rfl) Zn2).trans ?_;unfold YM;rw[Zo hi (by omega),List.append_assoc]
 ·simp only[Zae,List.nil_append]
  rw[if_neg (by omega)];rfl
def Zrk (b:Tapi_Block):Prop:=∀ t∈b.2,(∀ x∈t.2.1,Byt x.1.1.l)∧∀ o∈t.2.2.1,Byt o.2
theorem ZpU {b:Tapi_Block}(h:ZiH b) (hb:Zrk b):Zgk (elS b):=by
 intro x hx;obtain⟨t,ht,hx⟩:=List.mem_flatMap.1 hx;obtain⟨h1,h2⟩:=hb t ht;have h3:=(h.2 t ht).2.2;rw[txE,List.mem_append] at hx;rcases hx with hx | hx
 ·obtain⟨o,ho,hx⟩:=List.mem_flatMap.1 hx
  unfold ZbG at hx;split at hx
  ·obtain rfl:=List.mem_singleton.1 hx
   exact⟨h2 o ho,h3 o ho⟩
  ·cases hx
 ·split at hx
  ·cases hx
  ·obtain⟨y,hy,hx⟩:=List.mem_flatMap.1 hx
   obtain rfl:=List.mem_singleton.1 hx;exact⟨ZlM (h1 y hy) (Zmm _ _),by simp⟩
def posE (x:List Int):List (List Int):=if 0<x.length then[x] else[]
theorem Zm5 (l:List (List Int)):l.flatMap posE=l.filter fun x=>decide (0<x.length):=by
 induction l with
 | nil=>rfl
 | cons x l ih =>
  rw[List.flatMap_cons,ih,List.filter_cons,posE];by_cases h:0<x.length
  ·rw[if_pos h,if_pos (by simpa using h)]
   rfl
  ·rw[if_neg h,if_neg (by simpa using h)]
   rfl
theorem Zmo (x:List Int):(posE x).length≤1:=by unfold posE; split <;> simp
theorem ZoF {l:List (List Int)}(h:Zgk l):Zgk (l.flatMap posE):=by
 rw[Zm5];exact fun x hx=>h x (List.mem_filter.1 hx).1
end Go.Lc
end
section
namespace Go.Av
open Go.RowKit
open Go.Lc
set_option linter.unusedVariables false
theorem ZW {P:Program}{tt:TT}{T:Tab}{G:Glob}{kp:Keep}{w:Bool}{n:Nat}(hm:P.follows .mixedOrders=true) (htt:∀ t i,tt t=some i→Z1 P t=some i) (hT:∀ f F,T f=some F→ZdD P G (f % 1000000) F){f:FuncId}{fn:Func}
  (hf:P.funcs[f]? = some fn) (hb:(fn.body.isSome && !(fn.name == "runtime.NumGoroutine"))=true):ZD P G f (ZP tt T G kp w n fn):=by
 obtain⟨h1,h2⟩:=Bool.and_eq_true_iff.1 hb;obtain⟨c,hc⟩:=Option.isSome_iff_exists.1 h1;exact ZoU hm htt hT hf hc (by simpa using h2) fun ps r _ h=>⟨_,_,_,h⟩
theorem Zlf {P:Program}{G:Glob}{f:FuncId}{F F':List PV→Option (PV×List (List Cell))}(h:ZD P G f F) (hw:∀ ps r,F' ps=some r→F ps=some r):ZD P G f F' :=
 ⟨h.1,fun S w ks hh ps vs r outs a1 a2 a3 a4 hF=>h.2 S w ks hh ps vs r outs a1 a2 a3 a4 (hw _ _ hF)⟩
def Zm6 (k:IntKind):PV→Option Int
 | .one (.v (.int k' i))=>if k=k' then some i else none
 | _=>none
theorem Zpf {k:IntKind}{p:PV}{i:Int}(h:Zm6 k p=some i):p = .one (.v (.int k i)):=by
 unfold Zm6 at h;split at h
 ·split at h
  ·rename_i e; subst e; cases h; rfl
  ·cases h
 ·cases h
def dCs (k:IntKind):List Cell→Option (List Int)
 | []=>some []
 | c :: t=>match c with
  | .v (.int k' i)=>if k=k' then(dCs k t).map (i :: ·) else none
  | _=>none
theorem ZoG {k:IntKind}:∀ {cs:List Cell}{l:List Int},dCs k cs=some l→cs=ints k l
 | [],l,h=>by cases h; rfl
 | c :: t,l,h=>by
  unfold dCs at h;split at h
  ·split at h
   ·rename_i e
    subst e;obtain⟨m,hm,rfl⟩:=Option.map_eq_some_iff.1 h;rw[ZoG hm]; rfl
   ·cases h
  ·cases h
def Zlr (k:IntKind) (n:Nat):PV→Option (Arr n)
 | .agg cs=>match dCs k cs with
  | some l=>if h:l.length=n then some ⟨l,h⟩ else none
  | none=>none
 | _=>none
theorem Zns {k:IntKind}{n:Nat}{p:PV}{a:Arr n}(h:Zlr k n p=some a):p = .agg (arC k a):=by
 unfold Zlr at h;split at h
 ·split at h
  ·rename_i e
   split at h
   ·cases h; rw[ZoG e]; rfl
   ·cases h
  ·cases h
 ·cases h
def dRs (k:IntKind):List (List Cell)→Option (List Int)
 | []=>some []
 | r :: t=>match r with
  | [.v (.int k' i)]=>if k=k' then(dRs k t).map (i :: ·) else none
  | _=>none
theorem Zut {k:IntKind}:∀ {cs:List (List Cell)}{l:List Int},dRs k cs=some l→cs=Zf k l
 | [],l,h=>by cases h; rfl
 | c :: t,l,h=>by
  unfold dRs at h;split at h
  ·split at h
   ·rename_i e
    subst e;obtain⟨m,hm,rfl⟩:=Option.map_eq_some_iff.1 h;rw[Zut hm]; rfl
   ·cases h
  ·cases h
def Zm7 (k:IntKind):PV→Option (List Int)
 | .one (.slice .no rs)=>dRs k rs
 | _=>none
theorem Zpg {k:IntKind}{p:PV}{l:List Int}(h:Zm7 k p=some l):p = .one (.slice .no (Zf k l)):=by
 unfold Zm7 at h;split at h
 ·rw[Zut h]
 ·cases h
def d1 {α:Type}(d:PV→Option α):List PV→Option α
 | [p]=>d p
 | _=>none
def d2 {α β:Type}(d:PV→Option α) (e:PV→Option β):List PV→Option (α×β)
 | [p,q]=>match d p,e q with
  | some x,some y=>some (x,y)
  | _,_=>none
 | _=>none
theorem Zlg {α:Type}{d:PV→Option α}{ea:α→PV}(h:∀ p x,d p=some x→p=ea x){ps:List PV}{x:α}(hx:d1 d ps=some x):ps=[ea x]:=by
 unfold d1 at hx;split at hx
 ·rw[h _ _ hx]
 ·cases hx
theorem Zv7 {α β:Type}{d:PV→Option α}{e:PV→Option β}{ea:α→PV}{eb:β→PV}(h:∀ p x,d p=some x→p=ea x) (k:∀ p x,e p=some x→p=eb x){ps:List PV}{x:α×β}(hx:d2 d e ps=some x):ps=[ea x.1,eb x.2]:=by
 unfold d2 at hx;split at hx
 ·split at hx
  ·rename_i h1 h2
   cases hx
   rw[h _ _ h1,k _ _ h2]
  ·cases hx
 ·cases hx
end Go.Av
end
section
namespace Go.Av
open Go.RowKit
open Go.Lc
set_option linter.unusedVariables false
def dHdr:PV→Option Tapi_Header
 | .agg (.v (.int .u32 a) :: l)=>match dCs .u8 (l.take 32),dCs .u8 ((l.drop 32).take 32),l.drop 64 with
  | some p,some q,[.v (.int .u32 t),.v (.int .u32 b),.v (.int .u32 n)]=>if h:p.length=32 then if k:q.length=32 then some (a,⟨p,h⟩,⟨q,k⟩,t,b,n) else none else none
  | _,_,_=>none
 | _=>none
theorem Zsi {p:PV}{x:Tapi_Header}(h:dHdr p=some x):p = .agg (.v (.int .u32 x.1) :: (arC .u8 x.2.1++(arC .u8 x.2.2.1++[.v (.int .u32 x.2.2.2.1),.v (.int .u32 x.2.2.2.2.1),.v (.int .u32 x.2.2.2.2.2)]))):=by
 unfold dHdr at h;split at h
 ·rename_i a l
  split at h
  ·rename_i p q t b n h1 h2 h3
   split at h
   ·split at h
    ·injection h with h
     subst h;have e1:=ZoG h1;have e2:=ZoG h2
     have e3:l=l.take 32++((l.drop 32).take 32++l.drop 64):=by
      have:l.drop 64=(l.drop 32).drop 32:=by rw[List.drop_drop]
      rw[this,List.take_append_drop,List.take_append_drop]
     rw[e1,e2,h3] at e3;rw[e3];rfl
    ·cases h
   ·cases h
  ·cases h
 ·cases h
end Go.Av
namespace Go.Lc
open Go.Av
theorem Zw4 (x:Tapi_Header):Le (Zk0 (Za4 x)) (ZaO x):=fun r h=>by
 obtain⟨rfl,_⟩:=Zm1 h;exact Zn8 x
theorem ZvV (x:Tapi_Header):Le (Zk0 (Za4 x)) (Yz x):=fun r h=>by
 obtain⟨rfl,_⟩:=Zm1 h;exact Zd8 x
end Go.Lc
end
section
namespace Go.Av
open Go.RowKit
open Go.Lc
set_option linter.unusedVariables false
def eqL {α:Type}(f:α→α→Bool):List α→List α→Bool
 | [],[]=>true
 | a :: l,b :: m=>f a b && eqL f l m
 | _,_=>false
theorem ZiI {α:Type}{f:α→α→Bool}(h:∀ a b,f a b=true→a=b):∀ {l m:List α},eqL f l m=true→l=m
 | [],[],_=>rfl
 | a :: l,b :: m,k=>by
  obtain⟨k1,k2⟩:=Bool.and_eq_true_iff.1 k;rw[h _ _ k1,ZiI h k2]
 | [],_ :: _,k=>by cases k
 | _ :: _,[],k=>by cases k
def eqY:Int→Int→Bool
 | .ofNat a,.ofNat b=>Nat.beq a b
 | .negSucc a,.negSucc b=>Nat.beq a b
 | _,_=>false
theorem eqY_ok:∀ {a b:Int},eqY a b=true→a=b
 | .ofNat a,.ofNat b,h=>by rw[Nat.eq_of_beq_eq_true h]
 | .negSucc a,.negSucc b,h=>by rw[Nat.eq_of_beq_eq_true h]
 | .ofNat _,.negSucc _,h=>by cases h
 | .negSucc _,.ofNat _,h=>by cases h
def eqC:Nat→Cell→Cell→Bool
 | 0,_,_=>false
 | n+1,c,d=>match c,d with
  | .v (.int k a),.v (.int k' b)=>decide (k=k') && eqY a b
  | .v (.bool a),.v (.bool b)=>decide (a=b)
  | .slice o r,.slice o' s=>decide (o=o') && eqL (eqL (eqC n)) r s
  | .own e r,.own e' s=>Nat.beq e e' && eqL (eqL (eqC n)) r s
  | _,_=>false
theorem eqC_ok:∀ {n:Nat}{c d:Cell},eqC n c d=true→c=d:=by
 intro n;induction n with
 | zero=>intro c d h; simp[eqC] at h
 | succ n ih =>
  intro c d h;simp only[eqC] at h;split at h
  ·obtain⟨h1,h2⟩:=Bool.and_eq_true_iff.1 h; rw[of_decide_eq_true h1,eqY_ok h2]
  ·rw[of_decide_eq_true h]
  ·obtain⟨h1,h2⟩:=Bool.and_eq_true_iff.1 h; rw[of_decide_eq_true h1,ZiI (fun _ _ k=>ZiI (fun _ _ q=>ih q) k) h2]
  ·obtain⟨h1,h2⟩:=Bool.and_eq_true_iff.1 h; rw[Nat.eq_of_beq_eq_true h1,ZiI (fun _ _ k=>ZiI (fun _ _ q=>ih q) k) h2]
  ·cases h
def eqP:PV→PV→Bool
 | .one c,.one d=>eqC 6 c d
 | .agg l,.agg m=>eqL (eqC 6) l m
 | .io l,.io m=>eqL (eqC 6) l m
 | .ref l,.ref m=>eqL (eqC 6) l m
 | _,_=>false
theorem eqP_ok:∀ {p q:PV},eqP p q=true→p=q:=by
 intro p q h;unfold eqP at h;split at h
 ·rw[eqC_ok h]
 ·rw[ZiI (fun _ _ k=>eqC_ok k) h]
 ·rw[ZiI (fun _ _ k=>eqC_ok k) h]
 ·rw[ZiI (fun _ _ k=>eqC_ok k) h]
 ·cases h
noncomputable def cst (A:List PV) (V:PV×List (List Cell)):List PV→Option (PV×List (List Cell)):=fun ps=>Bool.rec (motive:=fun _=>Option (PV×List (List Cell))) none (some V) (eqL eqP ps A)
theorem Zen {P:Program}{G:Glob}{f:FuncId}{F:List PV→Option (PV×List (List Cell))}{A:List PV}{V:PV×List (List Cell)}(h:ZD P G f F) (hv:F A=some V):ZD P G f (cst A V):=Zlf h fun ps r k=>by
 unfold cst at k;cases e:eqL eqP ps A with
 | false=>rw[e] at k; cases k
 | true =>
  rw[e] at k;obtain rfl:=Option.some.inj k;rw[ZiI (fun _ _ q=>eqP_ok q) e];exact hv
noncomputable def gvF {α β:Type}(dec:List PV→Option α) (g:α→Option β) (R:α→β→PV×List (List Cell)):List PV→Option (PV×List (List Cell)):=fun ps=>match dec ps with
 | some x=>(g x).map (R x)
 | none=>none
theorem Zeo {P:Program}{G:Glob}{f:FuncId}{α β:Type}{enc:α→List PV}{g g':α→Option β}{R:α→β→PV×List (List Cell)}(hi:∀ a b,enc a=enc b→a=b) (v:ZD P G f (Zat enc fun x=>(g x).map (R x))) (dec:List PV→Option α) (hd:∀ ps x,dec ps=some x→ps=enc x) (hle:∀ x,Le (g' x) (g x)):ZD P G f (gvF dec g' R):=by
 refine Zlf v fun ps r h=>?_
 unfold gvF at h;split at h
 ·rename_i x hx
  obtain⟨y,hy,rfl⟩:=Option.map_eq_some_iff.1 h;rw[hd _ _ hx];exact Y1 hi (hle x y hy)
 ·cases h
end Go.Av
end
section
namespace Go.Av
theorem Zuu {x:Int}(h:(Lit.int .u8 x).wf=true):0≤x∧x≤255:=by simpa[Lit.wf,IntKind.has,IntKind.min,IntKind.max,IntKind.signed,IntKind.bits] using h
end Go.Av
end
section
namespace Go.Lc
open Go.RowKit
open Go.Av
set_option linter.unusedVariables false
set_option linter.unusedSimpArgs false
set_option maxRecDepth 100000
end Go.Lc
end
section
namespace Go.Lc
open Go.RowKit
open Go.Av
set_option linter.unusedVariables false
set_option linter.unusedSimpArgs false
set_option maxRecDepth 100000
end Go.Lc
end
section
namespace Go.Lc
open Go.RowKit
open Go.Av
set_option linter.unusedVariables false
set_option linter.unusedSimpArgs false
set_option maxRecDepth 100000
abbrev M64 (x:Int):Prop:=0≤x∧x≤18446744073709551615
def dg (a:Arr 4):Prop:=∀ i,i<4→M64 (a.at i)
theorem dg_zero:dg (zA 4):=by
 intro i hi;have:i=0∨i=1∨i=2∨i=3:=by omega
 rcases this with rfl | rfl | rfl | rfl <;> exact⟨by decide,by decide⟩
theorem ZfH {a:Arr 4}(h:dg a){j:Nat}(hj:j<4){x:Int}(hx:M64 x):dg (a.put j x):=by
 intro i hi;by_cases e:j=i
 ·subst e
  rw[Arr.at_put _ hi];exact hx
 ·rw[Arr.at_put_ne _ e]
  exact h i hi
theorem Zhs (x:Int):M64 (IntKind.u64.wrap x):=Zml x
theorem ZiJ (op:BinOp) (x y:Int):M64 (bits op .u64 x y):=Zn7 op x y
theorem Znt {n:Int}(h:M64 n):dg ((zA 4).put 0 n):=ZfH dg_zero (by omega) h
theorem Zfm {n:Int}(h:0≤n) (m:Int):n.tdiv m=n / m:=Int.tdiv_eq_ediv_of_nonneg h
theorem ZdA {n:Int}(h:0≤n) (m:Int):n.tmod m=n % m:=Int.tmod_eq_emod_of_nonneg h
theorem Zky (a:Arr 4){n:Int}(h0:0≤n) (h1:n<256):Tot (XY a n) fun _=>True:=by
 unfold XY;rw[Zfm h0,ZdA h0,wi (n / 64) (by omega)];refine Xf (by omega) (by omega) fun j _ hj=>Zx (by omega) (Zb trivial)
theorem Zsj (a:Arr 4):Tot (Zap a) fun r=>0≤r∧r≤256:=by
 unfold Zap;refine ZJ (I:=fun(n:Nat) (s:Int)=>s+1=(n:Int)∧s≤255) (n:=256) ?_ ⟨by omega,by omega⟩;rintro n s ⟨hs,hs2⟩
 simp only[ZdM];refine Ze (fun h=>?_) (fun h=>?_)
 ·refine(Zky a h (by omega)).bind fun y _=>Ze (fun _=>?_) (fun _=>?_)
  ·exact Zb (show 0≤IntKind.i64.wrap (s+1)∧IntKind.i64.wrap (s+1)≤256 by rw[wi (s+1) (by omega)]; omega)
  ·exact Zb ⟨n-1,by omega,by rw[wi _ (by omega)]; omega,by rw[wi _ (by omega)]; omega⟩
 ·exact Tot.out (Zb (by omega))
theorem Zm8 {x y c:Int}(hx:M64 x) (hy:M64 y) (hc:0≤c∧c≤1):Tot (YD x y c) fun r=>M64 r.1∧0≤r.2∧r.2≤1:=by
 unfold YD;exact Zx (by omega) (Zb ⟨by simp only; omega,by simp only; omega⟩)
theorem Zsk {a b:Arr 4}(ha:dg a) (hb:dg b):Tot (ZcK a b) fun r=>dg r.1:=by
 unfold ZcK;refine ZJ (I:=fun(n:Nat) (s:Int×Int×Arr 4)=>s.2.1+(n:Int)=4∧0≤s.2.1∧(0≤s.1∧s.1≤1)∧dg s.2.2) (n:=4) ?_ ⟨by simp,by simp,by simp,dg_zero⟩;rintro n ⟨c,i,r⟩ ⟨h1,h2,h3,h4⟩
 dsimp only at h1 h2 h3 h4;simp only[ZfB];refine Ze (fun h=>?_) (fun h=>?_)
 ·refine Xf h2 h fun j hj hj4=>?_
  refine(Zm8 (ha j hj4) (hb j hj4) h3).bind fun y hy=>Zb ⟨n-1,by omega,?_,?_,hy.2,ZfH h4 hj4 hy.1⟩
  ·dsimp only
   rw[wi _ (by omega)];omega
  ·dsimp only
   rw[wi _ (by omega)];omega
 ·exact Tot.out (Zb h4)
theorem Zsl {a:Arr 4}(ha:dg a){n:Int}(hn:n≤100000):Tot (ZcL a n) dg:=by
 unfold ZcL;refine Ze (fun _=>Zb dg_zero) (fun h=>?_);refine ZJ (I:=fun(k:Nat) (s:Int×Arr 4)=>s.1≤(k:Int)∧s.1≤100000∧dg s.2) (n:=n.toNat) ?_ ⟨by dsimp only; omega,hn,ha⟩;rintro k ⟨i,r⟩ ⟨h1,h1b,h2⟩
 dsimp only at h1 h1b h2;simp only[Lref02_Shl_s1];refine Ze (fun h=>?_) (fun h=>?_)
 ·refine(Zsk h2 h2).bind fun y hy=>Zb ⟨k-1,by omega,?_,?_,hy⟩
  ·dsimp only
   rw[wi _ (by omega)];omega
  ·dsimp only
   rw[wi _ (by omega)];omega
 ·exact Tot.out (Zb h2)
theorem Znu {a:Arr 4}(ha:dg a) (n:Int):Tot (XA a n) dg:=by
 unfold XA;refine Ze (fun _=>Zb ha) (fun h=>Ze (fun _=>Zb dg_zero) (fun h'=>?_));refine ZJ (I:=fun(k:Nat) (s:Int×Arr 4)=>s.1+(k:Int)=256∧0≤s.1∧dg s.2) (n:=256) ?_ ⟨by simp,by simp,dg_zero⟩;rintro k ⟨i,r⟩ ⟨h1,h2,h3⟩
 dsimp only at h1 h2 h3;simp only[ZdL,Zbh];rw[wi (i+n) (by omega)];refine Ze (fun h=>?_) (fun h=>?_)
 ·refine(Zky a (by omega) h).bind fun y _=>Ze (fun _=>?_) (fun _=>?_)
  ·rw[Zfm h2,ZdA h2,wi (i / 64) (by omega)]
   refine Xf (by omega) (by omega) fun j hj hj4=>Zx (by omega) (Zb ⟨k-1,by omega,?_,?_,ZfH h3 hj4 (ZiJ _ _ _)⟩)
   ·dsimp only
    rw[wi _ (by omega)];omega
   ·dsimp only
    rw[wi _ (by omega)];omega
  ·refine Zb ⟨k-1,by omega,?_,?_,h3⟩
   ·dsimp only
    rw[wi _ (by omega)];omega
   ·dsimp only
    rw[wi _ (by omega)];omega
 ·exact Tot.out (Zb h3)
theorem Zqa (a:Arr 32):Tot (Y4 a) dg:=by
 unfold Y4;refine ZJ (I:=fun(k:Nat) (s:Int×Arr 4)=>s.1+(k:Int)=32∧0≤s.1∧dg s.2) (n:=32) ?_ ⟨by simp,by simp,dg_zero⟩;rintro k ⟨i,r⟩ ⟨h1,h2,h3⟩
 dsimp only at h1 h2 h3;simp only[Zbp];refine Ze (fun h=>?_) (fun h=>?_)
 ·rw[wi (31-i) (by omega),Zfm (by omega),ZdA (by omega),wi ((31-i) / 8) (by omega),wi (8 * ((31-i) % 8)) (by omega)]
  refine Xf (by omega) (by omega) fun j hj hj4=>Xf h2 h fun j2 hj2 _=>Zx (by omega) (Zb ⟨k-1,by omega,?_,?_,ZfH h3 hj4 (ZiJ _ _ _)⟩)
  ·dsimp only
   rw[wi _ (by omega)];omega
  ·dsimp only
   rw[wi _ (by omega)];omega
 ·exact Tot.out (Zb h3)
theorem Zk2 (a:Arr 4):Tot (Zaj a) fun _=>True:=Zb trivial
theorem Zkz (a b:Arr 4):Tot (YL a b) fun _=>True:=by
 unfold YL;refine ZJ (I:=fun(n:Nat) (s:Int)=>s+1=(n:Int)∧s≤3) (n:=4) ?_ ⟨by omega,by omega⟩;rintro n s ⟨hs,hs2⟩
 simp only[Zfy];refine Ze (fun h=>?_) (fun h=>?_)
 ·refine Xf h (by omega) fun j _ hj=>Ze (fun _=>Zb trivial) (fun _=>Ze (fun _=>Zb trivial) (fun _=>?_))
  exact Zb ⟨n-1,by omega,by rw[wi _ (by omega)]; omega,by rw[wi _ (by omega)]; omega⟩
 ·exact Tot.out (Zb trivial)
theorem Zmp (n:Int):Xg n=some ((zA 4).put 0 n):=rfl
abbrev M32 (x:Int):Prop:=0≤x∧x≤4294967295
theorem Zmq {n:Int}(hn:M32 n):Tot (Xo n) fun r=>dg r.1:=by
 unfold Xo;have f1:n.fdiv 16777216=n / 16777216:=by rw[Int.fdiv_eq_ediv_of_nonneg _ (by omega)]
 rw[f1];have hx:0≤n / 16777216∧n / 16777216≤255:=by omega
 generalize n / 16777216=x at hx
 have hk:∀ p,dg p→Tot (ZaC p) fun r=>dg r.1:=by
  intro p hp;unfold ZaC;exact(Zk2 p).bind fun y _=>Ze (fun _=>Zb dg_zero) (fun _=>Zb hp)
 rw[Zmp,Za,wi x (by omega)];have hm:=Znt (Zhs (bits .and .u32 n 16777215));refine Ze (fun _=>Zb dg_zero) (fun _=>Ze (fun h=>?_) (fun h=>?_))
 ·exact(Znu hm _).bind fun y hy=>hk y hy
 ·refine(Zk2 _).bind fun y _=>?_
  rw[wi (x-3) (by omega),wi (8 * (x-3)) (by omega)]
  have h5:Tot (if ¬ (y=true) then(Zap ((zA 4).put 0 (IntKind.u64.wrap (bits .and .u32 n 16777215)))).bind fun y11=>some (decide (256<IntKind.i64.wrap (y11+8 * (x-3)))) else some false) fun _=>True :=
   Ze (fun _=>(Zsj _).bind fun z _=>Zb trivial) (fun _=>Zb trivial)
  refine h5.bind fun z _=>Ze (fun _=>Zb dg_zero) (fun _=>?_)
  exact(Zsl hm (by omega)).bind fun q hq=>hk q hq
theorem ZpV (a:Arr 32){n:Int}(hn:M32 n):Tot (Zdq a n) fun _=>True:=by
 unfold Zdq;refine(Zmq hn).bind fun y _=>?_
 have h5:Tot (if y.2=0 then(Y4 a).bind fun y2=>(YL y2 y.1).bind fun y3=>some (decide (y3≤0)) else some false) fun _=>True :=
  Ze (fun _=>(Zqa a).bind fun z _=>(Zkz _ _).bind fun q _=>Zb trivial) (fun _=>Zb trivial)
 exact h5.bind fun z _=>Zb trivial
theorem Zuv (op:BinOp) (x y:Int):M32 (bits op .u32 x y):=by
 show M32 (IntKind.u32.wrap _)
 rw[Zjf];omega
end Go.Lc
end
section
namespace Go.Lc
open Go.RowKit
open Go.Av
set_option linter.unusedVariables false
set_option linter.unusedSimpArgs false
set_option maxRecDepth 100000
theorem ZyZ (L:List (List Int)) (hl:L.length≤1000000) (h:(L.flatMap id).length≤1000000000):ZaN L=some (L.flatMap id):=by
 unfold ZaN;refine ZeW L id [] ?_ ?_
 ·intro i hi
  have h1:=Zd6 L id (i+1);rw[XT id hi,List.length_append] at h1;simp only[Zc0,List.nil_append];rw[if_pos (by omega),Zh hi,ZaK (by simp only[id] at h1 ⊢; omega),Za,Zo hi (by omega)];rfl
 ·simp only[Zc0,List.nil_append]
  rw[if_neg (by omega)];rfl
noncomputable def Zv8 (t:Tapi_Tx):Arr 32:=if ZK t=true then X7 (X7 (Yu t true)).l else zA 32
theorem ZvW (t:Tapi_Tx):ZfU t=some (Zv8 t):=by
 unfold ZfU Zv8;rw[Za2,Za];by_cases h:ZK t=true
 ·have hb:=ZbV h
  rw[if_neg (by simp[h]),if_pos h,ZiD (Zjc h),Za,ZlK (by omega)];rfl
 ·rw[if_pos h,if_neg h]
noncomputable def Zv9 (a b:Arr 32):Arr 32:=X7 ([1]++(a.l++b.l))
theorem Zw5 (a b:Arr 32):ZfV a b=some (Zv9 a b):=by
 unfold ZfV;have ha:=a.hl;have hb:=b.hl;rw[ZyZ _ (by simp) (by simp[ha,hb]),Za,ZgT (by simp[ha,hb]),Za];simp[Zv9]
theorem Ztm (l:List (Arr 32)) (h1:1≤l.length) (h2:l.length≤1024):Tot (ZdN l) fun r=>(1≤r.length∧r.length≤1025)∧∀ x∈r,1≤x.length:=by
 unfold ZdN;refine ZJ (I:=fun(n:Nat) (s:List (Arr 32)×List (List (Arr 32)))=>s.1.length≤n∧1≤s.1.length∧1≤s.2.length∧s.2.length+s.1.length≤1025∧∀ x∈s.2,1≤x.length) (n:=1024) ?_ ⟨h2,h1,by simp,by simp; omega,by simpa using h1⟩;rintro n ⟨p,q⟩ ⟨k1,k2,k3,k4,k5⟩
 dsimp only at k1 k2 k3 k4 k5;simp only[Lref07_levels_s1];refine Ze (fun h=>?_) (fun h=>Tot.out (Zb ⟨⟨k3,by omega⟩,k5⟩));refine ZJ (I:=fun(m:Nat) (s:Int×List (Arr 32))=>s.1=2 * (s.2.length:Int)∧s.1<p.length+2∧(p.length:Int)+2≤s.1+(m:Int)) (n:=p.length+2) ?_ ⟨by simp,by simp; omega,by simp⟩;rintro m ⟨i,acc⟩ ⟨g1,g2,g3⟩
 dsimp only at g1 g2 g3;simp only[ZhS,ZbC];refine Ze (fun hlt=>?_) (fun hlt=>?_)
 ·rw[wi (i+1) (by omega)]
  refine Ze (fun hlt2=>?_) (fun hlt2=>?_)
  ·refine X0 (by omega) hlt fun x _=>X0 (by omega) hlt2 fun y _=>?_
   rw[Zw5,Za];refine Zx (by omega) (Zb ⟨m-2,by omega,?_,?_,?_⟩)
   ·dsimp only
    rw[wi _ (by omega)];simp
    omega
   ·dsimp only
    rw[wi _ (by omega)];omega
   ·dsimp only
    rw[wi _ (by omega)];omega
  ·refine X0 (by omega) hlt fun x _=>?_
   refine Zx (by omega) (Zb ⟨m-2,by omega,?_,?_,?_⟩)
   ·dsimp only
    rw[wi _ (by omega)];simp
    omega
   ·dsimp only
    rw[wi _ (by omega)];omega
   ·dsimp only
    rw[wi _ (by omega)];omega
 ·refine Tot.out ?_
  unfold Zds;refine Zx (by omega) (Zb ⟨n-1,by omega,?_,?_,?_,?_,?_⟩)
  ·dsimp only
   omega
  ·dsimp only
   omega
  ·simp
  ·simp only[List.length_append,List.length_singleton]
   omega
  ·intro x hx
   simp only[List.mem_append,List.mem_singleton] at hx;rcases hx with hx | rfl
   ·exact k5 x hx
   ·omega
theorem Zuw (l:List (Arr 32)):Tot (ZfW l) fun _=>True:=by
 unfold ZfW;refine Ze (fun _=>Zb trivial) (fun h=>?_);refine(Ztm l (by omega) (by omega)).bind fun y hy=>?_
 rw[wi _ (by omega)];refine Xf (by omega) (by omega) fun j _ hj=>ZdR hj fun x hx=>?_
 have:=hy.2 x (List.mem_of_getElem? hx);exact ZdR (by omega) fun z _=>Zb trivial
theorem ZoH (l:List Tapi_Tx) (hl:l.length≤1000000):Tot (Zef l) fun _=>True:=by
 unfold Zef;refine ZJ (I:=fun(n:Nat) (s:Int×List (Arr 32))=>s.1+(n:Int)=(l.length:Int)∧(s.2.length:Int)=s.1) (n:=l.length) ?_ ⟨by simp,by simp⟩;rintro n ⟨i,acc⟩ ⟨h1,h2⟩
 dsimp only at h1 h2;simp only[ZiY];refine Ze (fun h=>?_) (fun h=>?_)
 ·refine X0 (by omega) h fun x _=>?_
  rw[ZvW,Za];refine Zx (by omega) (Zb ⟨n-1,by omega,?_,?_⟩)
  ·dsimp only
   rw[wi _ (by omega)];omega
  ·dsimp only
   rw[wi _ (by omega)];simp
   omega
 ·refine Tot.out ?_
  unfold ZgL;exact(Zuw _).bind fun _ _=>Zb trivial
theorem ZnH {b:Tapi_Block}(h:ZiG b=true):b.2.length≤256∧(∀ t∈b.2,ZK t=true)∧ZhH b=(Zfl b,0):=by
 classical
 unfold ZiG at h;have h:=of_decide_eq_true h;unfold ZhH at h ⊢;by_cases c1:256<b.2.length
 ·rw[if_pos c1] at h; simp at h
 rw[if_neg c1] at h ⊢;by_cases c2:∃ t∈b.2,¬ ZK t=true
 ·rw[if_pos c2] at h; simp at h
 rw[if_neg c2] at h ⊢;by_cases c3:100000<(Zfl b).length
 ·rw[if_pos c3] at h; simp at h
 rw[if_neg c3];exact⟨by omega,fun t ht=>Decidable.byContradiction fun c=>c2 ⟨t,ht,c⟩,rfl⟩
theorem Y6 {α ρ:Type}{step:Int→Option (Int ⊕ ρ)}{Q:ρ→Prop}(l:List α) (J:Nat→Prop) (hl:l.length≤1000000000) (h0:J 0)
  (h:∀ i (hi:i<l.length),J i→Tot (step (i:Int)) fun | .inl s=>s=((i+1:Nat):Int)∧J (i+1) | .inr r=>Q r)
  (he:J l.length→∃ r,step (l.length:Int)=some (.inr r)∧Q r):Tot (Zd step 0) Q:=by
 refine ZJ (I:=fun(n:Nat) (s:Int)=>∃ i:Nat,s=i∧i+n=l.length∧J i) (n:=l.length) ?_ ⟨0,rfl,by simp,h0⟩;rintro n _ ⟨i,rfl,hi,hJ⟩
 by_cases hlt:i<l.length
 ·refine(h i hlt hJ).mono fun x hx=>?_
  cases x with
  | inl s=>exact⟨n-1,by omega,i+1,hx.1,by omega,hx.2⟩
  | inr r=>exact hx
 ·obtain rfl:i=l.length:=by omega
  obtain⟨r,hr,hq⟩:=he hJ;exact⟨.inr r,hr,hq⟩
theorem ZpW (ids:List (Arr 32)) (a:Arr 32) (hl:ids.length≤1000000):Tot (Zdu ids a) fun r=>-1≤r∧r<1000000:=by
 unfold Zdu;refine Y6 ids (fun _=>True) (by omega) trivial ?_ ?_
 ·intro i hi _
  simp only[Zgc];rw[if_pos (by omega),Zh hi];refine Ze (fun _=>Zb (by dsimp only; omega)) (fun _=>Zb ⟨Zo hi (by omega),trivial⟩)
 ·intro _
  simp only[Zgc];rw[if_neg (by omega)];exact⟨-1,rfl,by omega⟩
theorem ZrK {b:Tapi_Block}(hb:b.2.length≤256) (ht:∀ t∈b.2,t.2.1.length≤1000) (ids:List (Arr 32)) (hl:ids.length≤1000000):Tot (Zc3 b ids) fun _=>True:=by
 unfold Zc3;refine Y6 b.2 (fun _=>True) (by omega) trivial ?_ ?_
 ·intro i hi _
  have h1:=ht _ (List.getElem_mem hi);simp only[Zex];rw[if_pos (by omega),Zh hi];refine Y6 b.2[i].2.1 (fun _=>True) (by omega) trivial ?_ ?_
  ·intro j hj _
   simp only[Zew];rw[if_pos (by omega),Zh hj];refine(ZpW ids _ hl).bind fun y _=>Ze (fun _=>Zb (by trivial)) (fun _=>Zb ⟨Zo hj (by omega),trivial⟩)
  ·intro _
   simp only[Zew];rw[if_neg (by omega)];exact⟨.inl ((i+1:Nat):Int),by simp only[Zcy]; rw[Zo hi (by omega)]; rfl,rfl,trivial⟩
 ·intro _
  simp only[Zex];rw[if_neg (by omega)];exact⟨false,rfl,trivial⟩
theorem Zux {b:Tapi_Block}(hb:b.2.length≤256) (ht:∀ t∈b.2,t.2.1.length≤1000):Tot (ZeH b) fun _=>True:=by
 unfold ZeH;refine ZJ (I:=fun(n:Nat) (s:Int×List Tapi_OutPoint)=>s.1+(n:Int)=(b.2.length:Int)∧0≤s.1∧(s.2.length:Int)≤s.1 * 1000) (n:=b.2.length) ?_ ⟨by simp,by simp,by simp⟩;rintro n ⟨i,acc⟩ ⟨h1,h2,h3⟩
 dsimp only at h1 h2 h3;simp only[Zis];refine Ze (fun h=>?_) (fun h=>Tot.out (Zb trivial));refine X0 h2 h fun t htm=>?_
 have h4:=ht t htm;refine ZJ (I:=fun(m:Nat) (s:Int×List Tapi_OutPoint)=>s.1+(m:Int)=(t.2.1.length:Int)∧0≤s.1∧(s.2.length:Int)≤i * 1000+s.1) (n:=t.2.1.length) ?_ ⟨by simp,by simp,by simp; omega⟩;rintro m ⟨j,acc⟩ ⟨g1,g2,g3⟩
 dsimp only at g1 g2 g3;simp only[Zir];refine Ze (fun hj=>?_) (fun hj=>?_)
 ·refine X0 g2 hj fun x _=>?_
  refine Y6 acc (fun _=>True) (by omega) trivial ?_ ?_
  ·intro k hk _
   simp only[Zgd];rw[if_pos (by omega),Yt hk,ZhV hk];exact Ze (fun _=>Zb (by trivial)) (fun _=>Zb ⟨Zo hk (by omega),trivial⟩)
  ·intro _
   simp only[Zgd];rw[if_neg (by omega)];simp only[Zcf];rw[Zj (by omega),wi _ (by omega)];exact⟨.inl (j+1,acc++[x.1]),rfl,m-1,by omega,by dsimp only; omega,by dsimp only; omega,by simp; omega⟩
 ·refine Tot.out (Zb ⟨n-1,by omega,?_,?_,?_⟩)
  ·dsimp only
   rw[wi _ (by omega)];omega
  ·dsimp only
   rw[wi _ (by omega)];omega
  ·dsimp only
   rw[wi _ (by omega)];omega
structure Zoa (b:Tapi_Block):Prop where
 fits:ZiG b=true
 ne:b.2≠[]
 cb:∀ i (h:i<b.2.length),cbS b.2[i]=decide (i=0)
 chk:∀ t∈b.2,Zho t=0
theorem ZrL (b:Tapi_Block):Tot (ZeI b) fun r=>r=0→Zoa b:=by
 unfold ZeI;rw[Zrj,Za];refine Ze (fun _=>Zb (by simp)) (fun hf=>?_);have hf:ZiG b=true:=by simpa using hf
 obtain⟨hb,hft,-⟩:=ZnH hf;have hin:∀ t∈b.2,t.2.1.length≤1000:=fun t ht=>by have:=(Zjd (hft t ht)).1; omega
 refine Ze (fun _=>Zb (by simp)) (fun hne=>?_);have hne':b.2≠[]:=by rintro h; rw[h] at hne; simp at hne
 refine Y6 b.2 (fun n=>∀ i (h:i<b.2.length),i<n→cbS b.2[i]=decide (i=0)) (by omega) (fun i _ h=>absurd h (by omega)) ?_ ?_
 ·intro i hi hJ
  simp only[Zgf];rw[if_pos (by omega),Zh hi,ZmX,Za];refine Ze (fun _=>Zb (by simp)) (fun hc=>Zb ⟨Zo hi (by omega),fun k hk hk2=>?_⟩);by_cases e:k=i
  ·subst e
   have hc:(cbS b.2[k] == decide ((k:Int)=0))=true:=by simpa using hc
   have:=eq_of_beq hc;rw[this]
   congr 1
   simp
  ·exact hJ k hk (by omega)
 ·intro hcb
  simp only[Zgf];rw[if_neg (by omega)];refine Tot.inr ?_;unfold Zci;refine Y6 b.2 (fun n=>∀ i (h:i<b.2.length),i<n→Zho b.2[i]=0) (by omega) (fun i _ h=>absurd h (by omega)) ?_ ?_
  ·intro i hi hJ
   simp only[Zge];rw[if_pos (by omega),Zh hi,ZpM,Za];refine Ze (fun hc=>Zb (by intro h; exact absurd h hc)) (fun hc=>Zb ⟨Zo hi (by omega),fun k hk hk2=>?_⟩);by_cases e:k=i
   ·subst e
    simpa using hc
   ·exact hJ k hk (by omega)
  ·intro hck
   have hB:Zoa b:=⟨hf,hne',fun i h=>hcb i h h,fun t ht=>by
    obtain⟨i,hi,rfl⟩:=List.getElem_of_mem ht
    exact hck i hi hi⟩
   simp only[Zge];rw[if_neg (by omega)];refine Tot.inr (Tot.mono (P:=fun _=>True) ?_ fun _ _ _=>hB);unfold Zch;refine ZJ (I:=fun(n:Nat) (s:Int×List (Arr 32))=>s.1+(n:Int)=(b.2.length:Int)∧(s.2.length:Int)=s.1) (n:=b.2.length) ?_ ⟨by simp,by simp⟩;rintro n ⟨i,ids⟩ ⟨h1,h2⟩
   dsimp only at h1 h2;simp only[Zit];refine Ze (fun h=>?_) (fun h=>?_)
   ·refine X0 (by omega) h fun x _=>?_
    rw[Zri,Za];refine(ZpW ids _ (by omega)).bind fun y _=>Ze (fun _=>Zb trivial) (fun _=>?_)
    refine Zx (by omega) (Zb ⟨n-1,by omega,?_,?_⟩)
    ·dsimp only
     rw[wi _ (by omega)];omega
    ·dsimp only
     rw[wi _ (by omega)];simp
     omega
   ·refine Tot.out ?_
    unfold Zcg;refine(ZrK hb hin ids (by omega)).bind fun y _=>Ze (fun _=>Zb trivial) (fun _=>?_)
    refine(Zux hb hin).bind fun y _=>Ze (fun _=>Zb trivial) (fun _=>?_)
    exact(ZoH b.2 (by omega)).bind fun y _=>Ze (fun _=>Zb trivial) (fun _=>Zb trivial)
end Go.Lc
end
section
namespace Go.Lc
open Go.RowKit
open Go.Av
set_option linter.unusedVariables false
set_option linter.unusedSimpArgs false
set_option maxRecDepth 100000
structure PrmOk (p:Tapi_Params):Prop where
 bits:M32 p.1.2.2.2.2.1
 lim:dg p.2.1
 win:1≤p.2.2.1∧p.2.2.1≤4096
 spa:1≤p.2.2.2.1∧p.2.2.2.1≤1048576
 cps:p.2.2.2.2.2.2.1=[]
 sub:0≤p.2.2.2.2.2.2.2.1∧p.2.2.2.2.2.2.2.1≤2100000000000000
 hal:1≤p.2.2.2.2.2.2.2.2.1∧p.2.2.2.2.2.2.2.2.1≤16777216
theorem Zep {p:Tapi_Params}(h:PrmOk p):Tot (Xp p) fun _=>True:=by
 unfold Xp;refine(Zk2 _).bind fun y _=>Ze (fun _=>Zb trivial) (fun _=>Ze (fun _=>Zb trivial) (fun _=>?_))
 refine Y6 ([]:List Nat) (fun _=>True) (by simp) trivial (fun i hi=>absurd hi (by simp)) fun _=>?_
 simp only[Zip];rw[h.cps,if_neg (by simp)]
 have hk:Tot (Zgb p) fun _=>True:=by
  unfold Zgb;refine(Zmq h.bits).bind fun y _=>?_
  have h5:Tot (if y.2=0 then(YL y.1 p.2.1).bind fun y17=>some (decide (y17≤0)) else some false) fun _=>True :=
   Ze (fun _=>(Zkz _ _).bind fun z _=>Zb trivial) (fun _=>Zb trivial)
  exact h5.bind fun z _=>Zb trivial
 obtain⟨b,hb,-⟩:=hk;rw[hb];exact⟨b,rfl,trivial⟩
theorem ZnI {p:Tapi_Params}(h:PrmOk p){n:Int}(hn:n≤100000000):Tot (ZbB p n) fun r=>0≤r∧r≤2100000000000000:=by
 unfold ZbB;refine(Zep h).bind fun y _=>Ze (fun _=>Zb (by omega)) (fun h0=>?_)
 have hn0:0≤n:=by
  apply Decidable.byContradiction
  intro c;exact h0 (.inr (by omega))
 have hh:=h.hal;have hs:=h.sub;refine Zx (by omega) ?_;have e:n.tdiv p.2.2.2.2.2.2.2.2.1=n / p.2.2.2.2.2.2.2.2.1:=Zfm hn0 _;have e2:0≤n / p.2.2.2.2.2.2.2.2.1:=Int.ediv_nonneg hn0 (by omega);have e3:n / p.2.2.2.2.2.2.2.2.1≤n:=Int.ediv_le_self _ hn0;rw[e,wi _ (by omega)];generalize n / p.2.2.2.2.2.2.2.2.1=k at e2 e3;refine ZJ (I:=fun(m:Nat) (s:Int×Int)=>(0≤s.1∧s.1≤2100000000000000)∧s.2≤(m:Int)∧0≤s.2∧s.2≤100000000) (n:=k.toNat) ?_ ⟨hs,by dsimp only; omega,e2,by dsimp only; omega⟩;rintro m ⟨s,j⟩ ⟨h1,h2,h3,h4⟩
 dsimp only at h1 h2 h3 h4;simp only[Lref23_Subsidy_s1];refine Ze (fun hc=>?_) (fun hc=>Tot.out (Zb h1));rw[Zfm h1.1,wi (s / 2) (by omega),wi (j-1) (by omega)];exact Zb ⟨m-1,by omega,by dsimp only; omega,by dsimp only; omega,by dsimp only; omega,by dsimp only; omega⟩
theorem ZpX (t:Tapi_Tx) (ht:t.2.1.length≤1000) (n:Int):Tot (Zak t n) fun _=>True:=by
 unfold Zak;refine Ze (fun _=>Zb trivial) (fun _=>?_);refine Y6 t.2.1 (fun _=>True) (by omega) trivial ?_ ?_
 ·intro i hi _
  simp only[Zgg];rw[if_pos (by omega),Zh hi];exact Ze (fun _=>Zb (by trivial)) (fun _=>Zb ⟨Zo hi (by omega),trivial⟩)
 ·intro _
  simp only[Zgg];rw[if_neg (by omega)];exact⟨true,rfl,trivial⟩
theorem ZnJ (a b:Tapi_OutPoint):Tot (Xd a b) fun _=>True:=by
 unfold Xd;refine ZJ (I:=fun(n:Nat) (s:Int)=>s+(n:Int)=32∧0≤s) (n:=32) ?_ ⟨by omega,by omega⟩;rintro n s ⟨h1,h2⟩
 simp only[ZgX];refine Ze (fun h=>?_) (fun h=>?_)
 ·refine Xf h2 h fun j _ hj=>Ze (fun _=>Zb trivial) (fun _=>Ze (fun _=>Zb trivial) (fun _=>?_))
  exact Zb ⟨n-1,by omega,by rw[wi _ (by omega)]; omega,by rw[wi _ (by omega)]; omega⟩
 ·refine Tot.out ?_
  unfold ZgW;exact Ze (fun _=>Zb trivial) (fun _=>Ze (fun _=>Zb trivial) (fun _=>Zb trivial))
theorem Zuy (l:Tapi_Ledger) (hl:l.2.2.length≤1000000000):Tot (Zdt l) fun _=>True:=by
 unfold Zdt;refine Ze (fun _=>Zb trivial) (fun h=>?_);refine ZJ (I:=fun(n:Nat) (s:Int×Int)=>s.2+(n:Int)=(l.2.2.length:Int)∧0≤s.2) (n:=l.2.2.length) ?_ ⟨by simp,by simp⟩;rintro n ⟨s,i⟩ ⟨h1,h2⟩
 dsimp only at h1 h2;simp only[Ziq];refine Ze (fun hi=>?_) (fun hi=>Tot.out (Zb trivial));refine X0 h2 hi fun x _=>?_
 have h5:Tot (if 0<i then(idx (l.2.2) (IntKind.i64.wrap (i-1))).bind fun x18=>(Xd x18.1 x.1).bind fun y19=>some (decide (0≤y19)) else some false) fun _=>True:=by
  refine Ze (fun h0=>?_) (fun _=>Zb trivial);rw[wi _ (by omega)];exact X0 (by omega) (by omega) fun y _=>(ZnJ _ _).bind fun z _=>Zb trivial
 refine h5.bind fun z _=>Ze (fun _=>Zb trivial) (fun _=>Ze (fun _=>Zb trivial) (fun _=>Ze (fun _=>Zb trivial) (fun _=>?_)))
 exact Zb ⟨n-1,by omega,by dsimp only; rw[wi (i+1) (by omega)]; omega,by dsimp only; rw[wi (i+1) (by omega)]; omega⟩
theorem Zob (l:List Tapi_Coin) (o:Tapi_OutPoint) (hl:l.length≤1000000000):Tot (ZcQ l o) fun r=>(r<0∧∀ c∈l,c.1≠o)∨∃ i:Nat,∃ h:i<l.length,r=(i:Int)∧l[i].1=o:=by
 unfold ZcQ;refine Y6 l (fun n=>∀ i (h:i<l.length),i<n→l[i].1≠o) hl (fun i _ h=>absurd h (by omega)) ?_ ?_
 ·intro i hi hJ
  simp only[ZgM];rw[if_pos (by omega),Zh hi];refine Ze (fun hc=>Zb (.inr ⟨i,hi,rfl,Prod.ext hc.1 hc.2⟩)) (fun hc=>Zb ⟨Zo hi (by omega),fun k hk hk2=>?_⟩);by_cases e:k=i
  ·subst e
   exact fun c=>hc ⟨congrArg Prod.fst c,congrArg Prod.snd c⟩
  ·exact hJ k hk (by omega)
 ·intro hJ
  simp only[ZgM];rw[if_neg (by omega)];refine⟨-1,rfl,.inl ⟨by omega,fun c hc=>?_⟩⟩;obtain⟨i,hi,rfl⟩:=List.getElem_of_mem hc;exact hJ i hi hi
theorem ZnK (c:Tapi_Coin) (h:c.2.1.2.length≤1000000):ZaW c=some c:=by
 unfold ZaW;rw[Zrd _ (by omega),Za]
end Go.Lc
end
section
namespace Go.Lc
open Go.RowKit
open Go.Av
set_option linter.unusedVariables false
set_option linter.unusedSimpArgs false
set_option maxRecDepth 100000
def ScrM (s:List Int):Prop:=∃ j,(1≤j∧j≤6)∧s=[1,1,j,5]
def Zkm (c:Tapi_Coin):Prop:=Byt c.1.1.l∧ScrM c.2.1.2
theorem ScrM.len {s:List Int}(h:ScrM s):s.length=4:=by obtain⟨j,_,rfl⟩:=h; rfl
theorem ScrM.byt {s:List Int}(h:ScrM s):Byt s:=by
 obtain⟨j,hj,rfl⟩:=h;intro x hx;simp at hx
 omega
theorem Zls (t:Tapi_Tx) (ht:t.2.2.1.length≤1000) (h:Int):Tot (ZaI t h) fun r=>r.length=t.2.2.1.length∧∀ c∈r,c.1.1=idS t∧∃ o∈t.2.2.1,c.2.1=o:=by
 unfold ZaI;rw[Zri,Za];refine ZJ (I:=fun(n:Nat) (s:Int×List Tapi_Coin)=>s.1+(n:Int)=(t.2.2.1.length:Int)∧(s.2.length:Int)=s.1∧∀ c∈s.2,c.1.1=idS t∧∃ o∈t.2.2.1,c.2.1=o) (n:=t.2.2.1.length) ?_ ⟨by simp,by simp,by simp⟩;rintro n ⟨i,acc⟩ ⟨h1,h2,h3⟩
 dsimp only at h1 h2 h3;simp only[ZgZ];refine Ze (fun hi=>?_) (fun hi=>?_)
 ·refine X0 (by omega) hi fun o ho=>?_
  rw[ZmX,Za];refine Zx (by omega) (Zb ⟨n-1,by omega,?_,?_,?_⟩)
  ·dsimp only
   rw[wi _ (by omega)];omega
  ·dsimp only
   rw[wi _ (by omega)];simp
   omega
  ·intro c hc
   rcases List.mem_append.1 hc with hc | hc
   ·exact h3 c hc
   ·obtain rfl:=List.mem_singleton.1 hc
    exact⟨rfl,o,ho,rfl⟩
 ·exact Tot.out (Zb ⟨by omega,h3⟩)
theorem ZvX {l:List Tapi_Coin}{c:Tapi_Coin}(hl:l.length≤1000000) (hs:c.2.1.2.length≤1000000):Tot (ZbM l c) fun r=>r.length=l.length+1∧∀ x∈r,x∈l∨x=c:=by
 unfold ZbM;refine ZJ (I:=fun(n:Nat) (s:Int×List Tapi_Coin)=>s.1+(n:Int)=(l.length:Int)∧0≤s.1∧(s.2.length:Int)≤s.1∧∀ x∈s.2,x∈l) (n:=l.length) ?_ ⟨by simp,by simp,by simp,by simp⟩;rintro n ⟨i,acc⟩ ⟨h1,h2,h3,h4⟩
 dsimp only at h1 h2 h3 h4;simp only[Zi0,Zc5];refine Ze (fun hi=>?_) (fun hi=>?_)
 ·refine X0 h2 hi fun x hx=>?_
  refine(ZnJ _ _).bind fun y _=>Ze (fun _=>?_) (fun _=>?_)
  ·refine Zx (by omega) (Zb ⟨n-1,by omega,?_,?_,?_,?_⟩)
   ·dsimp only
    rw[wi _ (by omega)];omega
   ·dsimp only
    rw[wi _ (by omega)];omega
   ·dsimp only
    rw[wi _ (by omega)];simp
    omega
   ·intro z hz
    rcases List.mem_append.1 hz with hz | hz
    ·exact h4 z hz
    ·obtain rfl:=List.mem_singleton.1 hz
     exact hx
  ·refine Zb ⟨n-1,by omega,?_,?_,?_,h4⟩
   ·dsimp only
    rw[wi _ (by omega)];omega
   ·dsimp only
    rw[wi _ (by omega)];omega
   ·dsimp only
    rw[wi _ (by omega)];omega
 ·refine Tot.out ?_
  unfold ZiZ;rw[ZnK c hs,Za];refine Zx (by omega) (Zx (by omega) (Zx (by simp; omega) (Zb ⟨?_,?_⟩)))
  ·simp
   omega
  ·intro x hx
   simp only[List.append_assoc,List.mem_append,List.mem_singleton] at hx;rcases hx with hx | hx | hx
   ·exact .inl (h4 x hx)
   ·exact .inr hx
   ·exact .inl (List.mem_of_mem_drop hx)
theorem Zuz {l:List Tapi_Coin}{t:Tapi_Tx}(hl:l.length≤200000) (ht:t.2.2.1.length≤1000) (hs:∀ o∈t.2.2.1,o.2.length≤1000000) (h:Int):Tot (ZgN l t h) fun r=>r.2=0→r.1.length=l.length+t.2.2.1.length∧∀ c∈r.1,c∈l∨c.1.1=idS t∧∃ o∈t.2.2.1,c.2.1=o:=by
 unfold ZgN;refine(Zls t ht h).bind fun y hy=>?_
 refine Y6 y (fun _=>True) (by omega) trivial ?_ ?_
 ·intro i hi _
  simp only[ZhB];rw[if_pos (by omega),Yt hi,ZhV hi];refine(Zob l _ (by omega)).bind fun z _=>Ze (fun _=>Zb (by intro h; simp at h)) (fun _=>Zb ⟨Zo hi (by omega),trivial⟩)
 ·intro _
  simp only[ZhB];rw[if_neg (by omega)];refine Tot.inr ?_;unfold ZfE;refine(Zls t ht h).bind fun z hz=>?_
  refine ZJ (I:=fun(n:Nat) (s:List Tapi_Coin×Int)=>s.2+(n:Int)=(z.length:Int)∧0≤s.2∧(s.1.length:Int)=l.length+s.2∧∀ c∈s.1,c∈l∨c∈z) (n:=z.length) ?_ ⟨by simp,by simp,by simp,fun c hc=>.inl hc⟩;rintro n ⟨acc,i⟩ ⟨h1,h2,h3,h4⟩
  dsimp only at h1 h2 h3 h4;simp only[ZjK];refine Ze (fun hi=>?_) (fun hi=>?_)
  ·refine Xf h2 hi fun j hj hj2=>ZdR hj2 fun x hx=>?_
   have hxz:=List.mem_of_getElem? hx;obtain⟨_,o,ho,hxo⟩:=hz.2 x hxz;refine(ZvX (l:=acc) (c:=x) (by omega) (by rw[hxo]; exact hs o ho)).bind fun r hr=>Zb ⟨n-1,by omega,?_,?_,?_,?_⟩
   ·dsimp only
    rw[wi _ (by omega)];omega
   ·dsimp only
    rw[wi _ (by omega)];omega
   ·dsimp only
    rw[wi _ (by omega)];omega
   ·intro c hc
    rcases hr.2 c hc with hc | rfl
    ·exact h4 c hc
    ·exact .inr hxz
  ·refine Tot.out (Zb fun _=>⟨by dsimp only; omega,fun c hc=>?_⟩)
   rcases h4 c hc with hc | hc
   ·exact .inl hc
   ·exact .inr (hz.2 c hc)
theorem ZuA {p:Tapi_Params}{l:List Tapi_Coin}{t:Tapi_Tx}(hl:l.length≤1000000) (hs:∀ c∈l,c.2.1.2.length≤1000000) (ht:t.2.1.length≤1000) (h:Int):Tot (ZeK p l t h) fun r=>r.2=0→r.1.length=t.2.1.length∧(∀ c∈r.1,c∈l)∧∀ j (h1:j<r.1.length) (h2:j<t.2.1.length),r.1[j].1=t.2.1[j].1:=by
 unfold ZeK;refine ZJ (I:=fun(n:Nat) (s:Int×List Tapi_Coin)=>s.1+(n:Int)=(t.2.1.length:Int)∧(s.2.length:Int)=s.1∧(∀ c∈s.2,c∈l)∧∀ j (h1:j<s.2.length) (h2:j<t.2.1.length),s.2[j].1=t.2.1[j].1) (n:=t.2.1.length) ?_ ⟨by simp,by simp,by simp,fun j h1=>absurd h1 (by simp)⟩;rintro n ⟨i,acc⟩ ⟨h1,h2,h3,h4⟩
 dsimp only at h1 h2 h3 h4;simp only[Ziu];refine Ze (fun hi=>?_) (fun hi=>?_)
 ·obtain⟨k,rfl⟩:=Int.eq_ofNat_of_zero_le (show 0≤i by omega)
  rw[Zh (by omega)];refine(Zob l _ (by omega)).bind fun y hy=>Ze (fun _=>Zb (by intro h; simp at h)) (fun hneg=>?_)
  rcases hy with ⟨hy,_⟩ | ⟨q,hq,rfl,hq2⟩
  ·exact absurd hy hneg
  rw[Zh hq,ZnK _ (hs _ (List.getElem_mem hq)),Za];refine Zx (by omega) (Zb ⟨n-1,by omega,?_,?_,?_,?_⟩)
  ·dsimp only
   rw[wi _ (by omega)];omega
  ·dsimp only
   rw[wi _ (by omega)];simp
   omega
  ·intro c hc
   rcases List.mem_append.1 hc with hc | hc
   ·exact h3 c hc
   ·obtain rfl:=List.mem_singleton.1 hc
    exact List.getElem_mem hq
  ·intro j h1' h2'
   dsimp only at h1' ⊢;by_cases hj:j<acc.length
   ·rw[List.getElem_append_left hj]
    exact h4 j hj h2'
   ·obtain rfl:j=acc.length:=by simp at h1'; omega
    obtain rfl:acc.length=k:=by omega
    simpa using hq2
 ·refine Tot.out ?_
  unfold Zd4;refine Y6 acc (fun _=>True) (by omega) trivial ?_ ?_
  ·intro k hk _
   simp only[Zgi];rw[if_pos (by omega),Yt hk,ZhV hk];exact Ze (fun _=>Zb (by intro h; simp at h)) (fun _=>Zb ⟨Zo hk (by omega),trivial⟩)
  ·intro _
   simp only[Zgi];rw[if_neg (by omega)];exact⟨(acc,0),rfl,fun _=>⟨by dsimp only; omega,h3,h4⟩⟩
theorem Ztn {l:List Tapi_Coin}{i:Nat}(hi:i<l.length) (hl:l.length≤1000000):Zc4 l (i:Int)=some (l.take i++l.drop (i+1)):=by
 unfold Zc4;rw[Zj (by omega),Zj (by simp; omega),wi _ (by omega),Zj (by omega),Zj (by simp; omega)];rw[show((i:Int)+1).toNat=i+1 by omega,Int.toNat_natCast]
theorem ZpY (l:List Tapi_Coin) (hl:l.length≤1000000000):Tot (Zdv l) fun _=>True:=by
 unfold Zdv;refine ZJ (I:=fun(n:Nat) (s:Int×Int)=>s.2+(n:Int)=(l.length:Int)∧0≤s.2) (n:=l.length) ?_ ⟨by simp,by simp⟩;rintro n ⟨s,i⟩ ⟨h1,h2⟩
 dsimp only at h1 h2;simp only[Ziw];refine Ze (fun hi=>?_) (fun hi=>Tot.out (Zb trivial));refine X0 h2 hi fun x _=>Zb ⟨n-1,by omega,?_,?_⟩
 ·dsimp only
  rw[wi (i+1) (by omega)];omega
 ·dsimp only
  rw[wi (i+1) (by omega)];omega
theorem ZuB {p:Tapi_Params}(hp:PrmOk p) (l:Tapi_Ledger) (hl:l.2.2.length≤1000000000) (b:Tapi_Block):Tot (ZeJ p l b) fun r=>r=0→Zoa b:=by
 unfold ZeJ;refine(Zep hp).bind fun y _=>?_
 have h5:Tot (if ¬ (y=true) then some false else(Zdt l).bind fun y2=>some (!(y2))) fun _=>True :=
  Ze (fun _=>Zb trivial) (fun _=>(Zuy l hl).bind fun z _=>Zb trivial)
 refine h5.bind fun z _=>Ze (fun _=>Zb (by simp)) (fun _=>Ze (fun _=>Zb (by simp)) (fun _=>Ze (fun _=>Zb (by simp)) (fun _=>?_)))
 refine(ZrL b).bind fun e he=>Ze (fun hne=>Zb (by intro h; exact absurd h hne)) (fun h0=>?_)
 have hB:=he (Decidable.byContradiction h0);have hlen:0<b.2.length:=List.length_pos_iff.2 hB.ne;refine ZdR hlen fun x hx=>?_
 have hx0:b.2[0]=x:=by rw[List.getElem?_eq_getElem hlen] at hx; exact Option.some.inj hx
 have hcb:=hB.cb 0 hlen;rw[hx0] at hcb;have hcb:cbS x=true:=by simpa using hcb
 have hin:x.2.1.length=1:=by
  unfold cbS at hcb;split at hcb
  ·rename_i h; rw[h]; rfl
  ·cases hcb
 refine ZdR (by omega) fun q _=>Ze (fun _=>Zb (by simp)) (fun _=>?_)
 refine(ZpX x (by omega) _).bind fun r _=>Ze (fun _=>Zb (by simp)) (fun _=>Zb fun _=>hB)
end Go.Lc
end
section
namespace Go.Lc
open Go.RowKit
open Go.Av
set_option linter.unusedVariables false
set_option linter.unusedSimpArgs false
set_option maxRecDepth 100000
end Go.Lc
end
section
namespace Go.Lc
open Go.RowKit
open Go.Av
set_option linter.unusedVariables false
set_option linter.unusedSimpArgs false
set_option maxRecDepth 100000
def dg8 (a:Arr 8):Prop:=∀ i,i<8→M64 (a.at i)
theorem dg8_zero:dg8 (zA 8):=by
 intro i hi;have:i=0∨i=1∨i=2∨i=3∨i=4∨i=5∨i=6∨i=7:=by omega
 rcases this with rfl | rfl | rfl | rfl | rfl | rfl | rfl | rfl <;> exact⟨by decide,by decide⟩
theorem Zsm {a:Arr 8}(h:dg8 a){j:Nat}(hj:j<8){x:Int}(hx:M64 x):dg8 (a.put j x):=by
 intro i hi;by_cases e:j=i
 ·subst e
  rw[Arr.at_put _ hi];exact hx
 ·rw[Arr.at_put_ne _ e]
  exact h i hi
theorem Zsn {l:List Int}(hl:l.length=4) (h:∀ x∈l,M64 x):dg ((zA 4).over l):=by
 intro i hi
 have e:(zA 4).over l=⟨l,hl⟩:=by
  unfold Arr.over;have h4:(zA 4).l.length=4:=(zA 4).hl
  congr 1
  rw[List.take_of_length_le (by omega),List.drop_of_length_le (by omega),List.append_nil]
 rw[e];have:(⟨l,hl⟩:Arr 4).at i=l[i]'(by omega):=by simp[Arr.at,hl,hi]
 rw[this];exact h _ (List.getElem_mem _)
theorem Zw6 {a:Arr 8}(h:dg8 a):∀ x∈a.l,M64 x:=by
 intro x hx;obtain⟨i,hi,rfl⟩:=List.getElem_of_mem hx;have hl:=a.hl;have:=h i (by omega);rw[Arr.at,List.getD_eq_getElem?_getD,List.getElem?_eq_getElem hi] at this;exact this
theorem Zw7 {a b:Arr 4}(ha:dg a) (hb:dg b):Tot (ZgO a b) fun r=>dg r.1∧dg r.2:=by
 unfold ZgO;refine ZJ (I:=fun(n:Nat) (s:Int×Arr 8)=>s.1+(n:Int)=4∧0≤s.1∧dg8 s.2) (n:=4) ?_ ⟨by simp,by simp,dg8_zero⟩;rintro n ⟨i,w⟩ ⟨h1,h2,h3⟩
 dsimp only at h1 h2 h3;simp only[ZjM];refine Ze (fun h=>?_) (fun h=>?_)
 ·refine ZJ (I:=fun(k:Nat) (s:Int×Int×Arr 8)=>s.2.1+(k:Int)=4∧0≤s.2.1∧M64 s.1∧dg8 s.2.2) (n:=4) ?_ ⟨by simp,by simp,⟨by simp,by simp⟩,h3⟩
  rintro k ⟨c,j,w⟩ ⟨k1,k2,k3,k4⟩
  dsimp only at k1 k2 k3 k4;simp only[ZjL];refine Ze (fun hj=>?_) (fun hj=>?_)
  ·refine Xf h2 h fun p hp hp4=>Xf k2 hj fun q hq hq4=>?_
   refine(show Tot (XN (a.at p) (b.at q)) fun r=>M64 r.1∧M64 r.2 from Zb ⟨Zhs _,Zhs _⟩).bind fun y hy=>?_
   rw[wi (i+j) (by omega)];refine Xf (by omega) (by omega) fun z hz hz8=>?_
   refine(Zm8 (k4 z hz8) hy.2 (by omega)).bind fun u hu=>?_
   refine(Zm8 hu.1 k3 (by omega)).bind fun v hv=>?_
   refine Zb ⟨k-1,by omega,?_,?_,Zhs _,Zsm k4 hz8 hv.1⟩
   ·dsimp only
    rw[wi (j+1) (by omega)];omega
   ·dsimp only
    rw[wi (j+1) (by omega)];omega
  ·refine Tot.out ?_
   unfold ZfF;rw[wi (i+4) (by omega)];refine Xf (by omega) (by omega) fun z hz hz8=>Zb ⟨n-1,by omega,?_,?_,Zsm k4 hz8 k3⟩
   ·dsimp only
    rw[wi (i+1) (by omega)];omega
   ·dsimp only
    rw[wi (i+1) (by omega)];omega
 ·refine Tot.out (Zb ?_)
  have hl:=w.hl;have hm:=Zw6 h3;exact⟨Zsn (by rw[List.length_drop,hl]) fun x hx=>hm x (List.mem_of_mem_drop hx),Zsn (by rw[List.length_take,hl]; rfl) fun x hx=>hm x (List.mem_of_mem_take hx)⟩
theorem ZuC {x y c:Int}(hx:M64 x) (hy:M64 y) (hc:0≤c∧c≤1):Tot (ZaB x y c) fun r=>M64 r.1∧0≤r.2∧r.2≤1:=by
 unfold ZaB;refine Zx (by omega) (Zb ⟨by simp only; omega,?_⟩);simp only;split <;> omega
theorem Zw8 {a b:Arr 4}(ha:dg a) (hb:dg b):Tot (ZgK a b) fun r=>dg r.1:=by
 unfold ZgK;refine ZJ (I:=fun(n:Nat) (s:Int×Int×Arr 4)=>s.2.1+(n:Int)=4∧0≤s.2.1∧(0≤s.1∧s.1≤1)∧dg s.2.2) (n:=4) ?_ ⟨by simp,by simp,by simp,dg_zero⟩;rintro n ⟨c,i,r⟩ ⟨h1,h2,h3,h4⟩
 dsimp only at h1 h2 h3 h4;simp only[ZjJ];refine Ze (fun h=>?_) (fun h=>?_)
 ·refine Xf h2 h fun j hj hj4=>?_
  refine(ZuC (ha j hj4) (hb j hj4) h3).bind fun y hy=>Zb ⟨n-1,by omega,?_,?_,hy.2,ZfH h4 hj4 hy.1⟩
  ·dsimp only
   rw[wi _ (by omega)];omega
  ·dsimp only
   rw[wi _ (by omega)];omega
 ·exact Tot.out (Zb h4)
theorem Zw9 {a b c:Arr 4}(ha:dg a) (hb:dg b) (hc:dg c):Tot (ZgP a b c) fun r=>dg r.1:=by
 unfold ZgP;refine(Zkz _ _).bind fun y _=>Ze (fun _=>Zb dg_zero) (fun _=>?_)
 refine ZJ (I:=fun(n:Nat) (s:Int×Arr 4×Arr 4)=>s.1+1=(n:Int)∧s.1≤255∧dg s.2.1∧dg s.2.2) (n:=256) ?_ ⟨by simp,by simp,dg_zero,ha⟩;rintro n ⟨i,q,r⟩ ⟨h1,h2,h3,h4⟩
 dsimp only at h1 h2 h3 h4;simp only[ZjO];refine Ze (fun h=>?_) (fun h=>Tot.out (Zb h3));refine(Zky r (by omega) (by omega)).bind fun o _=>(Zsk h4 h4).bind fun s hs=>(Zky b h (by omega)).bind fun t _=>?_
 have key:∀ p,dg p→Tot (ZdO o c i q p) (Nx (fun(n:Nat) (s:Int×Arr 4×Arr 4)=>s.1+1=(n:Int)∧s.1≤255∧dg s.2.1∧dg s.2.2) (fun r=>dg r.1) n):=by
  intro p hp;unfold ZdO
  have h5:Tot (if o=true then some false else(YL p c).bind fun y45=>some (decide (0≤y45))) fun _=>True :=
   Ze (fun _=>Zb trivial) (fun _=>(Zkz _ _).bind fun z _=>Zb trivial)
  have nxt:∀ q' p',dg q'→dg p'→Tot (ZfG i q' p') (Nx (fun(n:Nat) (s:Int×Arr 4×Arr 4)=>s.1+1=(n:Int)∧s.1≤255∧dg s.2.1∧dg s.2.2) (fun r=>dg r.1) n):=by
   intro q' p' hq hp';refine Zb ⟨n-1,by omega,?_,?_,hq,hp'⟩
   ·dsimp only
    rw[wi (i-1) (by omega)];omega
   ·dsimp only
    rw[wi (i-1) (by omega)];omega
  refine h5.bind fun z _=>Ze (fun _=>?_) (fun _=>nxt q p h3 hp)
  refine(Zw8 hp hc).bind fun v hv=>?_
  rw[Zfm h,ZdA h,wi (i / 64) (by omega)];exact Xf (by omega) (by omega) fun j hj hj4=>Zx (by omega) (nxt _ _ (ZfH h3 hj4 (ZiJ _ _ _)) hv)
 exact Ze (fun _=>key _ (ZfH hs (by omega) (ZiJ _ _ _))) (fun _=>key _ hs)
end Go.Lc
end
