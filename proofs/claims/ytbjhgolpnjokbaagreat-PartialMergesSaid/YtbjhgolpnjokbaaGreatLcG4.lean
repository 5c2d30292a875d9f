import Derived.Test.YtbjhgolpnjokbaaGreatLcG3
section
namespace Go.Lc
open Go.RowKit
open Go.Av
set_option linter.unusedVariables false
set_option linter.unusedSimpArgs false
set_option maxRecDepth 100000
structure ZdP (p : Tapi_Plan) : Prop where
 inl : p.1.2.1.length≤1000
 inw : ∀ x∈p.1.2.1,x.2.2 = []
 oul : p.1.2.2.1.length≤1000
 ous : ∀ o∈p.1.2.2.1,o.2.length≤1000000
 col : p.2.1.length≤1000
 cos : ∀ c∈p.2.1,c.2.1.2.length≤1000000
theorem citems_nil : YU [] = some []:=by
 unfold YU Yk;rw [ZR (by simp),Zf];refine Zbw ?_;simp only [Zcd];rw [if_neg (by simp)];rfl
theorem Zko {α : Type} {l : List α} {i : Nat} (h : i < l.length) {x : α} (hx : x = l[i]) : l.set i x = l:=by
 subst hx;exact List.set_getElem_self h
theorem ZqN {p : Tapi_Plan} (h : ZdP p) : Xo p.1 = some p.1:=by
 have hi:=h.inl;have ho:=h.oul
 have hf : ZbA p.1.2.2.1 p.1 p.1.2.1 = some p.1:=by
  unfold ZbA;refine Yu (step:=Zak p.1.2.2.1 p.1 p.1.2.1) (fun i=>((i : Int),p.1.2.2.1)) p.1.2.2.1.length (x:=some p.1) (fun i hi=>?_) ?_
  ·simp only [Zak]
   have:=h.ous _ (List.getElem_mem hi);rw [if_pos (by omega),ZaY hi,ZgB hi,Xn,ZR (by omega),Zf,Zko hi rfl,Z7 hi (by omega)]
  ·simp only [Zak]
   rw [if_neg (by omega)];rfl
 unfold Xo Z4 Z3;rw [ZR (by omega),Zf,ZR (by omega),Zf];refine Yu (step:=Zal p.1.2.1 p.1.2.2.1 p.1) (fun i=>((i : Int),p.1.2.1)) p.1.2.1.length (x:=some p.1) (fun i hi=>?_) ?_
 ·simp only [Zal]
  rw [if_pos (by omega),ZaY hi,ZgB hi,h.inw _ (List.getElem_mem hi),citems_nil,Zf,Zko hi (by rw [← h.inw _ (List.getElem_mem hi)]),Z7 hi (by omega)]
 ·simp only [Zal]
  rw [if_neg (by omega),hf]
theorem ZoC {p : Tapi_Plan} (h : ZdP p) : YQ p = some p:=by
 have hc:=h.col;unfold YQ Z5;rw [ZqN h,Zf,ZR (by omega),Zf];refine Yu (step:=XQ p.2.1 p.1 p) (fun i=>((i : Int),p.2.1)) p.2.1.length (x:=some p) (fun i hi=>?_) ?_
 ·simp only [XQ]
  have:=h.cos _ (List.getElem_mem hi);rw [if_pos (by omega),ZaY hi,ZgB hi,Xn,ZR (by omega),Zf,Zko hi rfl,Z7 hi (by omega)]
 ·simp only [XQ]
  rw [if_neg (by omega)];rfl
theorem ZcM {step : Int→Option (Int ⊕ Bool)} (n : Nat) (hn : n≤9223372036854775807) (h : ∀ i,i < n→step (i : Int) = some (.inl (IntKind.i64.wrap ((i : Int) + 1)))) (he : step (n : Int) = (some true).map Sum.inr) : Zu step 0 = some true :=
 Yu (step:=step) (fun i=>(i : Int)) n (x:=some true) (fun i hi=>by rw [h i hi,Z7 hi hn]) he
theorem ZoD (l : List (List Int)) (hl : l.length≤1000000) : ZM l l = some true:=by
 unfold ZM;rw [if_neg (by simp)];refine ZcM l.length (by omega) (fun i hi=>?_) ?_
 ·simp only [Ya]
  rw [if_pos (by omega),Zw hi,Zw hi,X6,Zf,if_neg (by simp)]
 ·simp only [Ya]
  rw [if_neg (by omega)];rfl
def pf (p : Tapi_Plan) (f : Int) : Tapi_Plan:=(p.1,p.2.1,f,p.2.2.2)
theorem ZlY (o : Tapi_Output) : YI o o = some true:=by
 unfold YI X6;simp
theorem ZqO {p : Tapi_Plan} (h : ZdP p) (f : Int) : Y7 p (pf p f) = some (decide (p.2.2.1 = f)):=by
 have hin : Zv p.1.2.1 p.1.2.1 = some true:=by
  have:=h.inl;unfold Zv;rw [if_neg (by simp)];refine ZcM p.1.2.1.length (by omega) (fun i hi=>?_) ?_
  ·simp only [ZS]
   rw [if_pos (by omega),Zw hi,Zw hi,Y8,if_pos (by simp),h.inw _ (List.getElem_mem hi),ZoD _ (by simp)];simp
  ·simp only [ZS]
   rw [if_neg (by omega)];rfl
 have hou : Zs p.1.2.2.1 p.1.2.2.1 = some true:=by
  have:=h.oul;unfold Zs;rw [if_neg (by simp)];refine ZcM p.1.2.2.1.length (by omega) (fun i hi=>?_) ?_
  ·simp only [ZQ]
   rw [if_pos (by omega),Zw hi,Zw hi,ZlY,Zf,if_neg (by simp)]
  ·simp only [ZQ]
   rw [if_neg (by omega)];rfl
 have hco : Zx p.2.1 p.2.1 = some true:=by
  have:=h.col;unfold Zx;rw [if_neg (by simp)];refine ZcM p.2.1.length (by omega) (fun i hi=>?_) ?_
  ·simp only [ZT]
   rw [if_pos (by omega),Zw hi,Zw hi,Y9,if_pos (by simp),ZlY];simp
  ·simp only [ZT]
   rw [if_neg (by omega)];rfl
 unfold Y7 pf;simp only [hin,hou,hco];by_cases hf : p.2.2.1 = f <;> simp [hf]
theorem ZlZ (o : Tapi_Output) : Xt o o = some true:=by
 unfold Xt Zbe;simp
theorem ZqP {p : Tapi_Plan} (h : ZdP p) : Zai p.1 p.1 = some true:=by
 have h1:=h.inl;have h2:=h.oul
 have hk : ZcI p.1 p.1 = some true:=by
  unfold ZcI;refine ZcM p.1.2.2.1.length (by omega) (fun i hi=>?_) ?_
  ·simp only [ZcH]
   rw [if_pos (by omega),Zw hi,Zw hi,ZlZ,Zf,if_neg (by simp)]
  ·simp only [ZcH]
   rw [if_neg (by omega)];rfl
 unfold Zai;rw [if_neg (by simp)];refine ZcM p.1.2.1.length (by omega) (fun i hi=>?_) ?_
 ·simp only [ZcJ]
  rw [if_pos (by omega),Zw hi,Zw hi,if_neg (by simp)];refine Zd2 ?_;simp only [Zet];rw [h.inw _ (List.getElem_mem hi),if_neg (by simp)];rfl
 ·simp only [ZcJ]
  rw [if_neg (by omega),hk]
theorem Zl0 {p : Tapi_Plan} (h : ZdP p) (f : Int) : Zaw p (pf p f) = some (decide (p.2.2.1 = f)):=by
 have hc:=h.col;unfold Zaw pf;rw [ZqP h,Zf];by_cases hf : p.2.2.1 = f
 ·rw [if_neg (by simp [hf]),decide_eq_true hf]
  refine ZcM p.2.1.length (by omega) (fun i hi=>?_) ?_
  ·simp only [ZdL]
   rw [if_pos (by omega),Zw hi,Zw hi,X7,if_pos (by simp),ZlZ];simp
  ·simp only [ZdL]
   rw [if_neg (by omega)];rfl
 ·rw [if_pos (by simp [hf])]
  simp [hf]
theorem Zjh {p : Tapi_PartialTx} (h : ZdP p.1) (hl : p.2.length≤1000000) : Zax p p = some true:=by
 have e:=Zl0 h p.1.2.2.1;rw [show pf p.1 p.1.2.2.1 = p.1 from rfl] at e;unfold Zax;rw [e,Zf,if_neg (by simp)];refine ZcM p.2.length (by omega) (fun i hi=>?_) ?_
 ·simp only [ZdM]
  rw [if_pos (by omega),Zw hi,Zw hi,if_neg (by simp)]
 ·simp only [ZdM]
  rw [if_neg (by omega)];rfl
noncomputable def Zh7 (p : Tapi_Plan) : Bool:=(XB p).getD false
theorem ZqQ (p : Tapi_Plan) : XB p = some (Zh7 p)∧X1 p = some (Zh7 p):=by
 obtain ⟨b,h1,h2⟩:=Zoy p;have : Zh7 p = b:=by unfold Zh7; rw [h1]; rfl
 rw [this];exact ⟨h1,h2⟩
def Zbb (l : List Tapi_Signed) : Prop:=∀ s∈l,dig s.2.2.1∧dig s.2.2.2
def Zcb (p : Tapi_PartialTx) : Prop:=Zh7 p.1 = true∧(∀ s∈p.2,(0≤s.1∧s.1 < p.1.1.2.1.length)∧Zby s.2.2.1∧Zby s.2.2.2)∧Asc p.2
theorem ZrS {l : List Tapi_Signed} (h : ∀ i (h : i + 1 < l.length),ltS (l[i]'(by omega)) (l[i + 1]'h)) : Asc l:=by
 refine List.pairwise_iff_getElem.2 ?_;intro i j hi hj hij;induction j with
 | zero=>omega
 | succ j ih =>
  by_cases e : i = j
  ·subst e; exact h i hj
  ·exact ZfK (ih (by omega) (by omega)) (h j hj)
def Zld (p : Tapi_PartialTx) (i : Nat) : Prop:=∃ h : i < p.2.length,¬ ((0≤p.2[i].1∧p.2[i].1 < p.1.1.2.1.length)∧Zby p.2[i].2.2.1∧Zby p.2[i].2.2.2∧(0 < i→ltS (p.2[i - 1]'(by omega)) p.2[i]))
theorem Zl1 {p : Tapi_PartialTx} (hp : Zh7 p.1 = true) : (¬ ∃ i,i < p.2.length∧Zld p i)↔Zcb p:=by
 constructor
 ·intro hn
  have hg : ∀ i (h : i < p.2.length),(0≤p.2[i].1∧p.2[i].1 < p.1.1.2.1.length)∧Zby p.2[i].2.2.1∧Zby p.2[i].2.2.2∧(0 < i→ltS (p.2[i - 1]'(by omega)) p.2[i]):=fun i h=>Classical.byContradiction fun hc=>hn ⟨i,h,h,hc⟩
  refine ⟨hp,fun s hs=>?_,ZrS fun i h=>?_⟩
  ·obtain ⟨i,hi,rfl⟩:=List.getElem_of_mem hs
   exact ⟨(hg i hi).1,(hg i hi).2.1,(hg i hi).2.2.1⟩
  ·exact (hg (i + 1) h).2.2.2 (by omega)
 ·rintro ⟨_,h1,h2⟩ ⟨i,_,h,hb⟩
  refine hb ⟨(h1 _ (List.getElem_mem h)).1,(h1 _ (List.getElem_mem h)).2.1,(h1 _ (List.getElem_mem h)).2.2,fun hi=>?_⟩;exact List.pairwise_iff_getElem.1 h2 (i - 1) i (by omega) h (by omega)
theorem ord_ref : Lref05_Order = some ordA:=Fref05_Order_le _ order_val
theorem Zfq (a : Arr 4) : (0≤ZdU a ordA)↔¬ Zby a:=by unfold Zby; omega
open Classical in
theorem Zh8 (p : Tapi_PartialTx) (hs : Zbb p.2) (hl : p.2.length≤1000000) : Xs p = some (decide (Zcb p))∧X9 p = some (decide (Zcb p)):=by
 obtain ⟨hv,hv2⟩:=ZqQ p.1;unfold Xs X9;rw [hv,hv2,Zf,Zf];by_cases hp : Zh7 p.1 = true
 ·rw [if_neg (by simp [hp]),if_neg (by simp [hp])]
  have hd : decide (Zcb p) = if ∃ i,i < p.2.length∧Zld p i then false else true:=by
   by_cases h : ∃ i,i < p.2.length∧Zld p i
   ·rw [if_pos h,decide_eq_false]
    intro hc;exact (Zl1 hp).2 hc h
   ·rw [if_neg h,decide_eq_true ((Zl1 hp).1 h)]
  have hq : ∀ o : Option Bool,o = (if ∃ i,i < p.2.length∧Zld p i then some false else some true)→o = some (decide (Zcb p)):=by
   intro o ho;rw [ho,hd];split <;> rfl
  constructor
  ·refine hq _ ?_
   refine Zce (fun i=>(i : Int)) p.2.length (Zld p) (some false) (some true) (fun i hi _ hb=>?_) (fun i hi _ hb=>?_) (fun _=>?_) rfl
   ·have hg : (0≤p.2[i].1∧p.2[i].1 < p.1.1.2.1.length)∧Zby p.2[i].2.2.1∧Zby p.2[i].2.2.2∧(0 < i→ltS (p.2[i - 1]'(by omega)) p.2[i]):=Classical.byContradiction fun hc=>hb ⟨hi,hc⟩
    obtain ⟨g1,g2,g3,g4⟩:=hg;obtain ⟨d1,d2⟩:=hs _ (List.getElem_mem hi);obtain ⟨r,e1,e2⟩:=Zm6 d1 d2;simp only [Za3];rw [if_pos (by omega),Zw hi,if_neg (by omega),Zm5,Zf,e1,Zf,if_neg (by rw [e2]; simp [g2,g3])];by_cases h0 : 0 < i
    ·obtain ⟨c,c1,c2,c3⟩:=Zh4 (p.2[i - 1]'(by omega)) p.2[i]
     have:=c2.2 (g4 h0);rw [if_pos (by omega),wi _ (by omega),show ((i : Int) - 1) = ((i - 1 : Nat) : Int) by omega,Zw (by omega),c1,Zf,Zf,if_neg (by simp; omega),Z7 hi (by omega)]
    ·rw [if_neg (by omega),Zf,if_neg (by omega),Z7 hi (by omega)]
   ·obtain ⟨_,hb⟩:=hb
    obtain ⟨d1,d2⟩:=hs _ (List.getElem_mem hi);obtain ⟨r,e1,e2⟩:=Zm6 d1 d2;simp only [Za3];rw [if_pos (by omega),Zw hi];by_cases g1 : 0≤p.2[i].1∧p.2[i].1 < p.1.1.2.1.length
    ·rw [if_neg (by omega),Zm5,Zf,e1,Zf]
     by_cases g2 : Zby p.2[i].2.2.1∧Zby p.2[i].2.2.2
     ·rw [if_neg (by rw [e2]; simp [g2])]
      have h0 : 0 < i:=Classical.byContradiction fun h0=>hb ⟨g1,g2.1,g2.2,fun h=>absurd h h0⟩
      have hn : ¬ ltS (p.2[i - 1]'(by omega)) p.2[i]:=fun h=>hb ⟨g1,g2.1,g2.2,fun _=>h⟩
      obtain ⟨c,c1,c2,c3⟩:=Zh4 (p.2[i - 1]'(by omega)) p.2[i];have : ¬ c < 0:=fun h=>hn (c2.1 h)
      rw [if_pos (by omega),wi _ (by omega),show ((i : Int) - 1) = ((i - 1 : Nat) : Int) by omega,Zw (by omega),c1,Zf,Zf,if_pos (by simp; omega)];rfl
     ·rw [if_pos (by rw [e2]; exact g2)]
      rfl
    ·rw [if_pos (by omega)]
     rfl
   ·simp only [Za3]
    rw [if_neg (by omega)];rfl
  ·refine hq _ ?_
   refine Zce (fun i=>(i : Int)) p.2.length (Zld p) (some false) (some true) (fun i hi _ hb=>?_) (fun i hi _ hb=>?_) (fun _=>?_) rfl
   ·have hg : (0≤p.2[i].1∧p.2[i].1 < p.1.1.2.1.length)∧Zby p.2[i].2.2.1∧Zby p.2[i].2.2.2∧(0 < i→ltS (p.2[i - 1]'(by omega)) p.2[i]):=Classical.byContradiction fun hc=>hb ⟨hi,hc⟩
    obtain ⟨g1,g2,g3,g4⟩:=hg;have g2' := mt (Zfq p.2[i].2.2.1).1 (not_not_intro g2);have g3' := mt (Zfq p.2[i].2.2.2).1 (not_not_intro g3);have gr : ¬ (p.2[i].1 < 0∨(p.1.1.2.1.length : Int)≤p.2[i].1):=by omega
    simp only [Zb5];rw [if_pos (by omega),Zw hi,if_neg gr,ord_ref,Zf,Zhv,Zf,Zf,if_neg (by simp [gr,g2']),Zf,Zhv,Zf,Zf,if_neg (by simp [gr,g2',g3'])];by_cases h0 : 0 < i
    ·rw [if_pos (by omega),wi _ (by omega),show ((i : Int) - 1) = ((i - 1 : Nat) : Int) by omega,Zw (by omega),ZgW,Zf,Zf,Zf,if_neg (by simp [gr,g2',g3',g4 h0]),Z7 hi (by omega)]
    ·rw [if_neg (by omega),Zf,Zf,if_neg (by simp [gr,g2',g3']),Z7 hi (by omega)]
   ·obtain ⟨_,hb⟩:=hb
    simp only [Zb5];rw [if_pos (by omega),Zw hi];by_cases g1 : 0≤p.2[i].1∧p.2[i].1 < p.1.1.2.1.length
    ·have gr : ¬ (p.2[i].1 < 0∨(p.1.1.2.1.length : Int)≤p.2[i].1):=by omega
     rw [if_neg gr,ord_ref,Zf,Zhv,Zf,Zf];by_cases g2 : Zby p.2[i].2.2.1
     ·have g2' := mt (Zfq p.2[i].2.2.1).1 (not_not_intro g2)
      rw [if_neg (by simp [gr,g2']),Zf,Zhv,Zf,Zf];by_cases g3 : Zby p.2[i].2.2.2
      ·have g3' := mt (Zfq p.2[i].2.2.2).1 (not_not_intro g3)
       have h0 : 0 < i:=Classical.byContradiction fun h0=>hb ⟨g1,g2,g3,fun h=>absurd h h0⟩
       have hn : ¬ ltS (p.2[i - 1]'(by omega)) p.2[i]:=fun h=>hb ⟨g1,g2,g3,fun _=>h⟩
       rw [if_neg (by simp [gr,g2',g3']),if_pos (by omega),wi _ (by omega),show ((i : Int) - 1) = ((i - 1 : Nat) : Int) by omega,Zw (by omega),ZgW,Zf,Zf,Zf,if_pos (by simp [gr,g2',g3',hn]; omega)];rfl
      ·have g3' := (Zfq p.2[i].2.2.2).2 g3
       rw [if_pos (by simp [g3']),Zf,if_pos (by simp [g3'])];rfl
     ·have g2' := (Zfq p.2[i].2.2.1).2 g2
      rw [if_pos (by simp [g2']),Zf,if_pos (by simp [g2']),Zf,if_pos (by simp [g2'])];rfl
    ·have gr : p.2[i].1 < 0∨(p.1.1.2.1.length : Int)≤p.2[i].1:=by omega
     rw [if_pos gr,Zf,if_pos (.inl gr),Zf,if_pos (.inl (.inl gr)),Zf,if_pos (.inl (.inl (.inl gr)))];rfl
   ·simp only [Zb5]
    rw [if_neg (by omega)];rfl
 ·have hn : ¬ Zcb p:=fun h=>hp h.1
  rw [if_pos hp,if_pos hp,decide_eq_false hn];exact ⟨rfl,rfl⟩
end Go.Lc
end
section
namespace Go.Lc
open Go.RowKit
open Go.Av
set_option linter.unusedVariables false
set_option linter.unusedSimpArgs false
set_option maxRecDepth 100000
theorem ZsC {α : Type} {o o' : Option α} (h : Le o o') (c : α→Bool) (hc : o.map c = some true) : Tot o' fun a=>c a = true:=by
 cases ho : o with
 | none=>rw [ho] at hc; cases hc
 | some a =>
  rw [ho] at hc;exact ⟨a,h a ho,Option.some.inj hc⟩
theorem ZkT (n : Int) : YH n = some ((zA 4).put 0 n):=rfl
theorem Zle (n : Int) : Yx n = some ((zA 4).put 0 n):=rfl
theorem Zlf {n : Int} (h : 0≤n∧n≤18446744073709551615) : dig ((zA 4).put 0 n):=by
 intro i hi;obtain ⟨w,rfl⟩:=Int.eq_ofNat_of_zero_le h.1;by_cases e : i = 0
 ·subst e
  exact ⟨w,Arr.at_put _ (by omega) _,by omega⟩
 ·exact ⟨0,by rw [Arr.at_put_ne _ (fun h=>e h.symm),Zmf]; rfl,by omega⟩
theorem scripts_tot : ∃ m e q,XD 2 [(zA 4).put 0 4,(zA 4).put 0 16,(zA 4).put 0 4] = some (m,e)∧X4 1 m = some q∧q.length≤1000:=by
 have h:=scripts_val;rw [ZmR] at h;obtain ⟨y,h1,h2⟩:=Option.bind_eq_some_iff.1 h;obtain ⟨q,h3,h4⟩:=Option.map_eq_some_iff.1 h2;exact ⟨y.1,y.2,q,ZgT _ _ _ h1,ZkO _ _ _ h3,of_decide_eq_true h4⟩
theorem single_tot : Tot (XI ((zA 4).put 0 16)) fun q=>q.length≤1000 :=
 (ZsC (Zki _) _ single_val).mono fun q h=>of_decide_eq_true h
theorem ZpC {d : Tlightclientmill_Deck} (h : ZaJ d) (l : List (List Int)) (hl : l.length≤3) (hs : ∀ s∈l,s.length≤1000) : Tot (ZbQ d l) fun r=>ZdP r.1∧r.1.1.2.1.length≤3∧ZaJ r.2:=by
 unfold ZbQ;refine (ZcL h (by omega) (by omega)).bind fun y1 h1=>?_
 refine Zkj (I:=fun (n : Nat) (s : Int×Int×Tlightclientmill_Deck×(List Tapi_Input)×(List Tapi_Coin))=>s.2.1 + (n : Int) = (l.length : Int)∧0≤s.2.1∧ZaJ s.2.2.1∧(s.2.2.2.1.length : Int) = s.2.1∧(s.2.2.2.2.length : Int) = s.2.1∧(∀ x∈s.2.2.2.1,x.2.2 = [])∧∀ c∈s.2.2.2.2,c.2.1.2.length≤1000) (n:=l.length) ?_ ⟨by simp,by simp,h1.2,by simp,by simp,by simp,by simp⟩;rintro n ⟨a,k,d1,ins,cs⟩ ⟨hk,hk0,hd,hl1,hl2,hw,hc⟩
 dsimp only at hk hk0 hd hl1 hl2 hw hc;simp only [ZfS];refine Zbo (fun hlt=>?_) (fun hlt=>?_)
 ·refine ZnI hk0 hlt fun x hx=>?_
  refine Zgm (by omega) ?_;refine (ZcL hd (by omega) (by omega)).bind fun y2 h2=>?_
  refine ZnJ (by omega) (by omega) fun j _ hj=>Zgn hj fun x2 _=>?_
  refine Zgm (by omega) (Xv ⟨n - 1,by omega,?_,?_,h2.2,?_,?_,?_,?_⟩)
  ·dsimp only
   rw [wi (k + 1) (by omega)];omega
  ·dsimp only
   rw [wi (k + 1) (by omega)];omega
  ·dsimp only
   rw [wi (k + 1) (by omega)];simp only [List.length_append,List.length_cons,List.length_nil];omega
  ·dsimp only
   rw [wi (k + 1) (by omega)];simp only [List.length_append,List.length_cons,List.length_nil];omega
  ·intro y hy
   rcases List.mem_append.1 hy with hy | hy
   ·exact hw y hy
   ·rw [List.mem_singleton.1 hy]
  ·intro y hy
   rcases List.mem_append.1 hy with hy | hy
   ·exact hc y hy
   ·rw [List.mem_singleton.1 hy]
    exact hs x hx
 ·refine Tot.out ?_
  unfold ZfR;refine (ZcL hd (by omega) (by omega)).bind fun y2 h2=>?_
  rw [Zje,Zf,Zje,Zf];refine (ZcL h2.2 (by omega) (by omega)).bind fun y3 h3=>?_
  have hk2 : ∀ a b (c : List Tapi_Output) d',ZaJ d'→c.length≤2→(∀ o∈c,o.2.length≤4)→Tot (Zaf ins y1 cs a b c d') fun r=>ZdP r.1∧r.1.1.2.1.length≤3∧ZaJ r.2:=by
   intro a b c d' hd' hc1 hc2;unfold Zaf;exact Xv ⟨⟨by dsimp only; omega,hw,by dsimp only; omega,fun o ho=>Nat.le_trans (hc2 o ho) (by omega),by dsimp only; omega,fun c hc'=>Nat.le_trans (hc c hc') (by omega)⟩,by dsimp only; omega,hd'⟩
  refine Zbo (fun _=>hk2 _ _ _ _ h3.2 (by simp) (by simp)) fun _=>Zbo (fun _=>(ZcL h3.2 (by omega) (by omega)).bind fun y4 h4=>hk2 _ _ _ _ h4.2 (by simp) (by simp)) fun _=>hk2 _ _ _ _ h3.2 (by simp) (by simp)
theorem ZkU {d : Tlightclientmill_Deck} (h : ZaJ d) (p : Tapi_Plan) (hp : p.1.2.1.length≤3) : Tot (X3 d p) fun r=>Zbb r.1∧r.1.length≤9∧ZaJ r.2:=by
 unfold X3;refine Zkj (I:=fun (n : Nat) (s : Int×Tlightclientmill_Deck×List Tapi_Signed)=>s.1 + (n : Int) = (p.1.2.1.length : Int)∧0≤s.1∧ZaJ s.2.1∧Zbb s.2.2∧(s.2.2.length : Int)≤3 * s.1) (n:=p.1.2.1.length) ?_ ⟨by simp,by simp,h,fun s hs=>(List.not_mem_nil hs).elim,by simp⟩;rintro n ⟨i,d1,l⟩ ⟨hk,hk0,hd,hs,hl⟩
 dsimp only at hk hk0 hd hs hl;simp only [ZeV];refine Zbo (fun hlt=>?_) (fun hlt=>?_)
 ·refine Zkj (I:=fun (m : Nat) (s : Int×Tlightclientmill_Deck×List Tapi_Signed)=>(s.1 = 4∧m = 3∨s.1 = 16∧m = 2∨s.1 = 64∧m = 1∨s.1 = 256∧m = 0)∧ZaJ s.2.1∧Zbb s.2.2∧(s.2.2.length : Int) + m≤3 * i + 3) (n:=3) ?_ ⟨.inl ⟨rfl,rfl⟩,hd,hs,by dsimp only; omega⟩
  rintro m ⟨k,d2,l2⟩ ⟨hk2,hd2,hs2,hl2⟩
  dsimp only at hk2 hd2 hs2 hl2;simp only [ZeU];refine Zbo (fun hlt2=>?_) (fun hlt2=>?_)
  ·refine (ZcL hd2 (by omega) (by omega)).bind fun y1 h1=>?_
   have fin : ∀ (d3 : Tlightclientmill_Deck) (l3 : List Tapi_Signed),ZaJ d3→Zbb l3→(l3.length : Int) + m≤3 * i + 4→Tot (X2 k d3 l3) (Nx (fun (m : Nat) (s : Int×Tlightclientmill_Deck×List Tapi_Signed)=>(s.1 = 4∧m = 3∨s.1 = 16∧m = 2∨s.1 = 64∧m = 1∨s.1 = 256∧m = 0)∧ZaJ s.2.1∧Zbb s.2.2∧(s.2.2.length : Int) + m≤3 * i + 3) (Nx (fun (n : Nat) (s : Int×Tlightclientmill_Deck×List Tapi_Signed)=>s.1 + (n : Int) = (p.1.2.1.length : Int)∧0≤s.1∧ZaJ s.2.1∧Zbb s.2.2∧(s.2.2.length : Int)≤3 * s.1) (fun r : List Tapi_Signed×Tlightclientmill_Deck=>Zbb r.1∧r.1.length≤9∧ZaJ r.2) n) m):=by
    intro d3 l3 a1 a2 a3;unfold X2;rw [wu _ (by omega)];exact Xv ⟨m - 1,by omega,by dsimp only; omega,a1,a2,by dsimp only; omega⟩
   refine Zbo (fun _=>?_) (fun _=>fin _ _ h1.2 hs2 (by omega));rw [Zle,Zf];refine (ZcL h1.2 (by omega) (by omega)).bind fun y2 h2=>?_
   rw [Zle,Zf];refine (ZcL h2.2 (by omega) (by omega)).bind fun y3 h3=>?_
   rw [Zle,Zf,wu _ (by omega),wu _ (by omega)];refine Zgm (by omega) (fin _ _ h3.2 (fun s hs'=>?_) (by simp only [List.length_append,List.length_cons,List.length_nil]; omega));rcases List.mem_append.1 hs' with hs' | hs'
   ·exact hs2 s hs'
   ·rw [List.mem_singleton.1 hs']
    exact ⟨Zlf (by omega),Zlf (by omega)⟩
  ·refine Tot.out ?_
   unfold ZeT;rw [wi _ (by omega)];exact Xv ⟨n - 1,by omega,by dsimp only; omega,by dsimp only; omega,hd2,hs2,by dsimp only; omega⟩
 ·refine Tot.out ?_
  unfold ZeS;exact Xv ⟨hs,by dsimp only; omega,hd⟩
theorem ZqR {d : Tlightclientmill_Deck} (h : ZaJ d) : Tot (Zbh d) fun r=>ZdP r.1.1∧r.1.1.1.2.1.length≤3∧Zbb r.1.2∧r.1.2.length≤9:=by
 obtain ⟨m,e,q,h1,h2,h3⟩:=scripts_tot;obtain ⟨s,h4,h5⟩:=single_tot;unfold Zbh;rw [ZkT,ZkT,Zf,Zf,Zf,h1,Zf,Zf,h4,Zf];dsimp only;rw [h2,Zf,Zje,Zf];refine (ZcL h (by omega) (by omega)).bind fun y1 g1=>?_
 rw [wi _ (by omega)];refine Zgm ⟨by simp; omega,by omega⟩ ?_;refine (ZpC g1.2 _ (by simp; omega) (fun x hx=>?_)).bind fun y2 g2=>?_
 ·have:=List.mem_of_mem_take hx
  simp only [List.mem_cons,List.not_mem_nil,or_false] at this;rcases this with rfl | rfl | rfl
  ·exact h5
  ·exact h3
  ·simp
 ·refine (ZkU g2.2.2 _ g2.2.1).bind fun y3 g3=>?_
  exact Xv ⟨g2.1,g2.2.1,g3.1,g3.2.1⟩
theorem not_zero : Tot (ZcK (zA 4)) fun a=>dig a:=by
 refine ⟨_,rfl,fun i hi=>?_⟩
 have e : ∀ j,j < 4→bits .xor .u64 18446744073709551615 ((zA 4).at j) = ((18446744073709551615 : Nat) : Int):=by
  intro j hj;rw [Zmf];decide +kernel
 simp only [e 0 (by omega),e 1 (by omega),e 2 (by omega),e 3 (by omega)];refine ⟨18446744073709551615,?_,by omega⟩
 match i,hi with
 | 0,_=>rfl
 | 1,_=>rfl
 | 2,_=>rfl
 | 3,_=>rfl
theorem Zl2 (p : Tapi_PartialTx) (w a : Int) (hs : Zbb p.2) (hl : p.2.length≤9) : Tot (X8 p w a) fun r=>(∃ f,r.1 = pf p.1 f)∧Zbb r.2∧r.2.length≤10:=by
 have hk : ∀ l : List Tapi_Signed,Zbb l→l.length≤10→Tot (Yz w p l) fun r=>(∃ f,r.1 = pf p.1 f)∧Zbb r.2∧r.2.length≤10:=by
  intro l h1 h2;unfold Yz ZaR;rw [Zhu _ (by omega) (by omega),Zf];exact Zbo (fun _=>Xv ⟨⟨_,rfl⟩,h1,h2⟩) fun _=>Xv ⟨⟨_,rfl⟩,h1,h2⟩
 have hset : ∀ (j : Nat) (x : Tapi_Signed),dig x.2.2.1∧dig x.2.2.2→Tot (Yz w p (p.2.set j x)) fun r=>(∃ f,r.1 = pf p.1 f)∧Zbb r.2∧r.2.length≤10:=by
  intro j x hx;refine hk _ (fun s hs'=>?_) (by simp; omega);rcases List.mem_or_eq_of_mem_set hs' with h | rfl
  ·exact hs s h
  ·exact hx
 unfold X8;refine Zgm (by omega) ?_;refine Zbo (fun h0=>?_) fun _=>hk _ hs (by omega)
 rw [Zhu _ (by omega) (by omega),Zf];have hm:=Zlb a (n:=(p.2.length : Int)) (by omega);refine ZnJ hm.1 hm.2 fun j _ hj=>?_
 rw [Zhu _ (by omega) (by omega),Zf];have g : ∀ x,p.2[j]? = some x→dig x.2.2.1∧dig x.2.2.2:=fun x hx=>hs x (List.mem_of_getElem? hx)
 refine Zbo (fun _=>?_) fun _=>Zbo (fun _=>?_) fun _=>Zbo (fun _=>?_) fun _=>Zbo (fun _=>?_) fun _=>Zbo (fun _=>?_) fun _=>hk _ hs (by omega)
 ·rw [Zhu _ (by omega) (by omega),Zf]
  exact Zgn hj fun x hx=>hset _ _ (g x hx)
 ·refine not_zero.bind fun y hy=>?_
  exact Zgn hj fun x hx=>hset _ _ ⟨hy,(g x hx).2⟩
 ·rw [Zhu _ (by omega) (by omega),Zf,ZkT,Zf]
  exact Zgn hj fun x hx=>hset _ _ (g x hx)
 ·refine Zgn hj fun x hx=>?_
  refine Zgm (by omega) (hk _ (fun s hs'=>?_) (by simp; omega));rcases List.mem_append.1 hs' with h | h
  ·exact hs s h
  ·rw [List.mem_singleton.1 h]; exact g x hx
 ·rw [ZkT,Zf]
  exact Zgn hj fun x hx=>hset _ _ ⟨(g x hx).1,Zlf (by omega)⟩
def Zhx (a b : Tapi_PartialTx) (r : Tapi_PartialTx×Int) : Prop :=
 (¬ (Zcb a∧Zcb b)∧r = (nilP,6))∨((Zcb a∧Zcb b)∧((a.1.2.2.1≠b.1.2.2.1∨ZdV a.2 b.2)∧r = (nilP,350)∨(a.1.2.2.1 = b.1.2.2.1∧¬ ZdV a.2 b.2)∧∃ z,Zh5 a.2 b.2 z∧r = ((a.1,z),0)))
theorem Zhx.ext {a b : Tapi_PartialTx} {r r' : Tapi_PartialTx×Int} (h : Zhx a b r) (h' : Zhx a b r') : r = r' := by
 rcases h with ⟨h1,rfl⟩ | ⟨h1,⟨h2,rfl⟩ | ⟨h2,z,h3,rfl⟩⟩ <;> rcases h' with ⟨g1,rfl⟩ | ⟨g1,⟨g2,rfl⟩ | ⟨g2,z',g3,rfl⟩⟩
 ·rfl
 ·exact absurd g1 h1
 ·exact absurd g1 h1
 ·exact absurd h1 g1
 ·rfl
 ·rcases h2 with h2 | h2
  ·exact absurd g2.1 h2
  ·exact absurd h2 g2.2
 ·exact absurd h1 g1
 ·rcases g2 with g2 | g2
  ·exact absurd h2.1 g2
  ·exact absurd g2 h2.2
 ·rw [h3.ext g3]
theorem Znr {a b : Tapi_PartialTx} {f : Int} (hb : b.1 = pf a.1 f) (hp : ZdP a.1) (ha : Zbb a.2) (hb2 : Zbb b.2) (hla : a.2.length≤400000) (hlb : b.2.length≤400000) : Tot (XR a b) (Zhx a b):=by
 classical
 have hf : b.1.2.2.1 = f:=by rw [hb]; rfl
 unfold XR;rw [(Zh8 a ha (by omega)).1,Zf];by_cases va : Zcb a
 ·rw [if_neg (by simp [va]),(Zh8 b hb2 (by omega)).1,Zf,Zf]
  by_cases vb : Zcb b
  ·rw [if_neg (by simp [va,vb]),hb,ZqO hp,Zf]
   by_cases hfe : a.1.2.2.1 = f
   ·rw [if_neg (by simp [hfe])]
    obtain ⟨r,h1,h2⟩:=ZoA va.2.2 vb.2.2 hla hlb (ZoC hp);refine ⟨r,h1,.inr ⟨⟨va,vb⟩,?_⟩⟩;rcases h2 with ⟨hc,rfl⟩ | ⟨hc,z,hz,rfl⟩
    ·exact .inl ⟨.inr hc,rfl⟩
    ·exact .inr ⟨⟨hfe.trans hf.symm,hc⟩,z,hz,rfl⟩
   ·rw [if_pos (by simp [hfe])]
    exact Xv (.inr ⟨⟨va,vb⟩,.inl ⟨.inl fun e=>hfe (e.trans hf),rfl⟩⟩)
  ·rw [if_pos (by simp [vb])]
   exact Xv (.inl ⟨fun h=>vb h.2,rfl⟩)
 ·rw [if_pos (by simp [va]),Zf,if_pos (by simp [va])]
  exact Xv (.inl ⟨fun h=>va h.1,rfl⟩)
theorem ZoE {a b : Tapi_PartialTx} {f : Int} (hb : b.1 = pf a.1 f) (hp : ZdP a.1) (ha : Zbb a.2) (hb2 : Zbb b.2) (hla : a.2.length≤400000) (hlb : b.2.length≤400000) : Tot (ZaH a b) (Zhx a b):=by
 classical
 have hf : b.1.2.2.1 = f:=by rw [hb]; rfl
 unfold ZaH;rw [(Zh8 a ha (by omega)).2,Zf];by_cases va : Zcb a
 ·rw [if_neg (by simp [va]),(Zh8 b hb2 (by omega)).2,Zf,Zf]
  by_cases vb : Zcb b
  ·rw [if_neg (by simp [va,vb]),hb,Zl0 hp,Zf]
   by_cases hfe : a.1.2.2.1 = f
   ·rw [if_neg (by simp [hfe]),ZR (by omega)]
    obtain ⟨r,h1,h2⟩:=ZpB va.2.2 vb.2.2 hla hlb;refine ⟨r,h1,.inr ⟨⟨va,vb⟩,?_⟩⟩;rcases h2 with ⟨hc,rfl⟩ | ⟨hc,z,hz,rfl⟩
    ·exact .inl ⟨.inr hc,rfl⟩
    ·exact .inr ⟨⟨hfe.trans hf.symm,hc⟩,z,hz,rfl⟩
   ·rw [if_pos (by simp [hfe])]
    exact Xv (.inr ⟨⟨va,vb⟩,.inl ⟨.inl fun e=>hfe (e.trans hf),rfl⟩⟩)
  ·rw [if_pos (by simp [vb])]
   exact Xv (.inl ⟨fun h=>vb h.2,rfl⟩)
 ·rw [if_pos (by simp [va]),Zf,if_pos (by simp [va])]
  exact Xv (.inl ⟨fun h=>va h.1,rfl⟩)
theorem nilB : ZdP nilP.1:=⟨by simp [nilP],by simp [nilP],by simp [nilP],by simp [nilP],by simp [nilP],by simp [nilP]⟩
theorem Zl3 {α : Type} [DecidableEq α] : ∀ (l m : List α),l.Nodup→(∀ x∈l,x∈m)→l.length≤m.length
 | [],m,_,_=>Nat.zero_le _
 | a :: l,m,hn,h=>by
  have ha:=h a (by simp);have h1:=Zl3 l (m.erase a) (List.nodup_cons.1 hn).2 (fun x hx=>(List.mem_erase_of_ne (fun (e : x = a)=>(List.nodup_cons.1 hn).1 (by rw [← e]; exact hx))).2 (h x (by simp [hx])));rw [List.length_erase_of_mem ha] at h1;have h2:=List.length_pos_of_mem ha;simp only [List.length_cons];omega
theorem ZrT {z : List Tapi_Signed} : ∀ (y : List Tapi_Signed),Asc z→(∀ s∈z,s∈y)→z.length≤y.length:=by
 intro y hz h;have hn : z.Nodup:=hz.imp fun hlt e=>by subst e; exact Zhw _ hlt
 exact Zl3 z y hn h
theorem ZpD {x y z : List Tapi_Signed} (h : Zh5 x y z) : z.length≤x.length + y.length:=by
 have:=ZrT (x++y) h.1 fun s hs=>List.mem_append.2 ((h.2 s).1 hs)
 simpa using this
theorem ZoF {a b : Tapi_PartialTx} {r : Tapi_PartialTx×Int} (h : Zhx a b r) (hp : ZdP a.1) (hla : a.2.length≤400000) (hlb : b.2.length≤400000) : Zax r.1 r.1 = some true:=by
 rcases h with ⟨h1,rfl⟩ | ⟨h1,⟨h2,rfl⟩ | ⟨h2,z,h3,rfl⟩⟩
 ·exact Zjh nilB (by simp [nilP])
 ·exact Zjh nilB (by simp [nilP])
 ·exact Zjh hp (by have:=ZpD h3; dsimp only; omega)
theorem Zq5 {l : List Int} (h : l.length≤9223372036854775807) : ZaJ (l,0):=⟨by simp,by simp,h⟩
theorem ZrU (p : Tapi_Plan) : p = pf p p.2.2.1:=rfl
theorem partialMerges (l m : List Int) (w a : Int) (hl : l.length≤9223372036854775807) (hm : m.length≤9223372036854775807) : Y2 l m w a = some true:=by
 unfold Y2 Zcp;rw [sane35,Zf,if_neg (by simp),Zf];obtain ⟨y3,e3,p1,p2,p3,p4⟩:=ZqR (Zq5 hl);obtain ⟨y5,e5,q1,q2,q3⟩:=ZkU (Zq5 hm) y3.1.1 p2;obtain ⟨y6,e6,⟨f6,r1⟩,r2,r3⟩:=Zl2 (y3.1.1,y5.1) w a q1 q2;obtain ⟨y7,e7,⟨f7,s1⟩,s2,s3⟩:=Zl2 y3.1 w a p3 p4;rw [e3,Zf,Zf,e5,Zf,e6,Zf,e7,Zf]
 have hx : ∀ x∈[(y3.1.1,y5.1),((y6.1.1,y6.1.2.1,y6.1.2.2.1,y6.1.2.2.2),y6.2),((y7.1.1,y7.1.2.1,y7.1.2.2.1,y7.1.2.2.2),y7.2)],(∃ f,x.1 = pf y3.1.1 f)∧Zbb x.2∧x.2.length≤10:=by
  intro x hx;simp only [List.mem_cons,List.not_mem_nil,or_false] at hx;rcases hx with rfl | rfl | rfl
  ·exact ⟨⟨_,ZrU _⟩,q1,by dsimp only; omega⟩
  ·exact ⟨⟨f6,r1⟩,r2,r3⟩
  ·exact ⟨⟨f7,s1⟩,s2,s3⟩
 generalize hL : [(y3.1.1,y5.1),((y6.1.1,y6.1.2.1,y6.1.2.2.1,y6.1.2.2.2),y6.2),((y7.1.1,y7.1.2.1,y7.1.2.2.1,y7.1.2.2.2),y7.2)] = L at hx;have hLn : L.length = 3:=by rw [← hL]; rfl
 refine ZcM 3 (by omega) (fun i hi=>?_) ?_
 ·simp only [Zaj]
  rw [if_pos (by omega),ZaY hi,hL,ZgB (by omega)];obtain ⟨⟨f,g1⟩,g2,g3⟩:=hx _ (List.getElem_mem (by omega : i < L.length));obtain ⟨r,k1,k2⟩:=Znr g1 p1 p3 g2 (by omega) (by omega);obtain ⟨r',k3,k4⟩:=ZoE g1 p1 p3 g2 (by omega) (by omega);obtain rfl:=k2.ext k4;rw [k1,Zf,k3,Zf,if_neg (by simp),ZoF k2 p1 (by omega) (by omega),Zf,Zf,if_neg (by simp)]
 ·simp only [Zaj]
  rw [if_neg (by omega)];rfl
end Go.Lc
end
