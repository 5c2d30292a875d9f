import Derived.Test.YthpkpciceodioaaGreatDoorLcG5
import Derived.Test.YthpkpciceodioaaGreatDoorLcG1
import Derived.Test.YthpkpciceodioaaGreatDoorLcG3
import Derived.Test.YthpkpciceodioaaGreatDoorLcG4
import Derived.Test.YthpkpciceodioaaGreatDoorAvP3
section
namespace Go.Lc
open Go.RowKit
open Go.Av
set_option linter.unusedVariables false
set_option linter.unusedSimpArgs false
set_option maxRecDepth 100000
theorem ZlU {α β ρ : Type} {step : Int×List β→Option ((Int×List β) ⊕ ρ)} (l : List α) (f : α→List β) (acc : List β) {x : Option ρ}
  (h : ∀ i (hi : i < l.length),step ((i : Int),acc++(l.take i).flatMap f) = some (.inl (((i + 1 : Nat) : Int),acc++(l.take i).flatMap f++f l[i])))
  (he : step ((l.length : Int),acc++l.flatMap f) = x.map .inr) : Zg step (0,acc) = x:=by
 have key:=Xf (step:=step) (fun i=>((i : Int),acc++(l.take i).flatMap f)) l.length (x:=x) ?_ ?_
 ·simpa using key
 ·intro i hi
  rw [h i hi,ZkV f hi,List.append_assoc]
 ·simpa using he
def Zfi (h : Tapi_Header) : List Int:=XW (IntKind.u64.wrap h.1) 4++h.2.1.l++h.2.2.1.l++XW (IntKind.u64.wrap h.2.2.2.1) 4++XW (IntKind.u64.wrap h.2.2.2.2.1) 4++XW (IntKind.u64.wrap h.2.2.2.2.2) 4
theorem Zk8 (h : Tapi_Header) : (Zfi h).length = 80:=by simp [Zfi,h.2.1.hl,h.2.2.1.hl]
theorem Zm1 (h : Tapi_Header) : X2 h = some (Zfi h):=by
 unfold X2;have l1:=h.2.1.hl;have l2:=h.2.2.1.hl;rw [Zhy (by simp),Zf,List.nil_append,Zjl (by simp),Zf,Zjl (by simp [l1]),Zf,Zhy (by simp [l1,l2]),Zf,Zhy (by simp [l1,l2]),Zf,Zhy (by simp [l1,l2]),Zf];rfl
theorem Zlu (h : Tapi_Header) : X3 h = some (Zfi h):=by
 unfold X3;have l1:=h.2.1.hl;have l2:=h.2.2.1.hl;rw [ZhV (by simp),Zf,List.nil_append,ZkW (by simp),Zf,ZkW (by simp [l1]),Zf]
 have h0 : YW h (0,XW (IntKind.u64.wrap h.1) 4++h.2.1.l++h.2.2.1.l) = some (.inl (1,XW (IntKind.u64.wrap h.1) 4++h.2.1.l++h.2.2.1.l++XW (IntKind.u64.wrap h.2.2.2.1) 4)):=by
  simp only [YW];rw [if_pos (by omega),show (0 : Int) = ((0 : Nat) : Int) from rfl,Xm (by omega)];simp only [List.getElem?_cons_zero,Zf];rw [ZhV (by simp [l1,l2]),Zf];rfl
 have h1 : YW h (1,XW (IntKind.u64.wrap h.1) 4++h.2.1.l++h.2.2.1.l++XW (IntKind.u64.wrap h.2.2.2.1) 4) = some (.inl (2,XW (IntKind.u64.wrap h.1) 4++h.2.1.l++h.2.2.1.l++XW (IntKind.u64.wrap h.2.2.2.1) 4++XW (IntKind.u64.wrap h.2.2.2.2.1) 4)):=by
  simp only [YW];rw [if_pos (by omega),show (1 : Int) = ((1 : Nat) : Int) from rfl,Xm (by omega)];simp only [List.getElem?_cons_zero,List.getElem?_cons_succ,Zf];rw [ZhV (by simp [l1,l2]),Zf];rfl
 have h2 : YW h (2,XW (IntKind.u64.wrap h.1) 4++h.2.1.l++h.2.2.1.l++XW (IntKind.u64.wrap h.2.2.2.1) 4++XW (IntKind.u64.wrap h.2.2.2.2.1) 4) = some (.inl (3,Zfi h)):=by
  simp only [YW];rw [if_pos (by omega),show (2 : Int) = ((2 : Nat) : Int) from rfl,Xm (by omega)];simp only [List.getElem?_cons_zero,List.getElem?_cons_succ,Zf];rw [ZhV (by simp [l1,l2]),Zf];rfl
 rw [ZG h0,ZG h1,ZG h2];exact Yf (by simp [YW,Zb1])
noncomputable def hdrH (h : Tapi_Header) : Arr 32:=Zc0 (Zc0 (Zfi h)).l
theorem Zpk (h : Tapi_Header) : ZbZ h = some (hdrH h):=by
 unfold ZbZ;rw [Zm1,Zf,Zrh (by rw [Zk8]; omega)];rfl
theorem Zob (h : Tapi_Header) : Zb2 h = some (hdrH h):=by
 unfold Zb2;rw [Zlu,Zf,ZlO (by rw [Zk8]; omega)];rfl
noncomputable def Zm2 (a : Arr 32) : Arr 2:=⟨[wdv (a.l.take 8),wdv ((a.l.drop 8).take 8)],rfl⟩
theorem Zqn (a : Arr 32) : ZeE a = some (Zm2 a):=by
 unfold ZeE;rw [Zd9 _ (by simp),Zf,Zd9 _ (by simp)];rfl
theorem Zpl (a : Arr 32) : Zde a = some (Zm2 a):=by
 unfold Zde;rw [Zf3,Zf3,Zd9 _ (by simp),Zf,Zd9 _ (by simp)];rfl
theorem Zgu {α β : Type} (f : α→List β) (c : Nat) : ∀ (l : List α),(∀ a∈l,(f a).length≤c)→(l.flatMap f).length≤c * l.length
 | [],_=>by simp
 | a :: l,h=>by
  have h1:=h a (by simp);have h2:=Zgu f c l fun x hx=>h x (by simp [hx])
  rw [List.flatMap_cons,List.length_append,List.length_cons,Nat.mul_succ];omega
def Zc1 (x : List Int) : List (List Int):=if 0 < x.length then [x] else []
theorem Zoc (l : List (List Int)) : l.flatMap Zc1 = l.filter fun x=>decide (0 < x.length):=by
 induction l with
 | nil=>rfl
 | cons x l ih =>
  rw [List.flatMap_cons,ih,List.filter_cons,Zc1];by_cases h : 0 < x.length
  ·rw [if_pos h,if_pos (by simpa using h)]
   rfl
  ·rw [if_neg h,if_neg (by simpa using h)]
   rfl
theorem Zg2 (x : List Int) : (Zc1 x).length≤1:=by unfold Zc1; split <;> simp
theorem Zi6 {l : List (List Int)} (h : ZeP l) : ZeP (l.flatMap Zc1):=by
 rw [Zoc];exact fun x hx=>h x (List.mem_filter.1 hx).1
theorem Zpm (f : Tapi_Filter) (h : Arr 32) (l : List (List Int)) (hf : Byt f.2) (hi : ZeP l) (hl : l.length≤100000) : ZbI f h l = some (MR (Zm2 h) f (l.flatMap Zc1) 10 1533):=by
 unfold ZbI;refine ZlU l Zc1 [] ?_ ?_
 ·intro i hi
  have hp:=Zgu Zc1 1 (l.take i) fun o _=>Zg2 o
  rw [List.length_take] at hp;simp only [Zco,List.nil_append,Zax];rw [if_pos (by omega),Xl hi,Zbk hi (by omega)];by_cases h0 : 0 < l[i].length
  ·rw [if_pos (by omega),Zh (by omega)]
   simp only [Zc1,if_pos h0]
  ·rw [if_neg (by omega)]
   simp only [Zc1,if_neg h0,List.append_nil]
 ·have hp:=Zgu Zc1 1 l fun o _=>Zg2 o
  simp only [Zco,List.nil_append,Zd2];rw [if_neg (by omega),Zqn,Zf,Zn9 _ _ _ _ _ hf (Zi6 hi) (by omega)];rfl
theorem Zm3 (f : Tapi_Filter) (h : Arr 32) (l : List (List Int)) (hf : Byt f.2) (hi : ZeP l) (hl : l.length≤100000) : Zcc f h l = some (MR (Zm2 h) f (l.flatMap Zc1) 10 1533):=by
 unfold Zcc;refine ZlU l Zc1 [] ?_ ?_
 ·intro i hi
  have hp:=Zgu Zc1 1 (l.take i) fun o _=>Zg2 o
  rw [List.length_take] at hp;simp only [ZcO,List.nil_append,ZaV];rw [if_pos (by omega),Xl hi,Zbk hi (by omega)];by_cases h0 : 0 < l[i].length
  ·rw [if_pos (by omega),Zh (by omega)]
   simp only [Zc1,if_pos h0]
  ·rw [if_neg (by omega)]
   simp only [Zc1,if_neg h0,List.append_nil]
 ·have hp:=Zgu Zc1 1 l fun o _=>Zg2 o
  simp only [ZcO,List.nil_append,Zem];rw [if_neg (by omega),Zpl,Zf,Zoa _ _ _ _ _ hf (Zi6 hi) (by omega)];rfl
theorem filterMatches (f : Tapi_Filter) (h : Arr 32) (l : List (List Int)) (hf : ∀ a∈f.2,0≤a∧a≤255) (hi : ZlS l) : Xj f h l = some true:=by
 unfold Xj;rw [const_true,Zf,if_neg (by simp)];by_cases hl : 400 < (f.2.length : Int)
 ·rw [if_pos hl,Zf,if_pos (Or.inl hl)]
 rw [if_neg hl];obtain ⟨b,hb,hk⟩:=Zql l 30 100 hi.1;rw [hb,Zf,Zf];cases b with
 | false=>simp
 | true =>
  obtain ⟨k1,k2⟩:=hk rfl;have hI:=Zpi hi (by omega) k2;rw [if_neg (by simp; omega),Zpm f h l hf hI (by omega),Zm3 f h l hf hI (by omega),Zf,Zf];simp
end Go.Lc
end
section
namespace Go.Av
open Go.RowKit
open Go.Lc
set_option linter.unusedVariables false
theorem ZbV {P : Program} {tt : TT} {T : Tab} {G : Glob} {kp : Keep} {w : Bool} {n : Nat} (hm : P.follows .mixedOrders = true) (htt : ∀ t i,tt t = some i→Yr P t = some i) (hT : ∀ f F,T f = some F→Zbz P G (f % 1000000) F) {f : FuncId} {fn : Func}
  (hf : P.funcs[f]? = some fn) (hb : (fn.body.isSome && !(fn.name == "runtime.NumGoroutine")) = true) : Zi P G f (Y8 tt T G kp w n fn):=by
 obtain ⟨h1,h2⟩:=Bool.and_eq_true_iff.1 hb;obtain ⟨c,hc⟩:=Option.isSome_iff_exists.1 h1;exact Zjj hm htt hT hf hc (by simpa using h2) fun ps r _ h=>⟨_,_,_,h⟩
theorem ZhF {P : Program} {G : Glob} {f : FuncId} {F F' : List PV→Option (PV×List (List Cell))} (h : Zi P G f F) (hw : ∀ ps r,F' ps = some r→F ps = some r) : Zi P G f F' :=
 ⟨h.1,fun S w ks hh ps vs r outs a1 a2 a3 a4 hF=>h.2 S w ks hh ps vs r outs a1 a2 a3 a4 (hw _ _ hF)⟩
def ZhG (k : IntKind) : PV→Option Int
 | .one (.v (.int k' i))=>if k = k' then some i else none
 | _=>none
theorem Zjq {k : IntKind} {p : PV} {i : Int} (h : ZhG k p = some i) : p = .one (.v (.int k i)):=by
 unfold ZhG at h;split at h
 ·split at h
  ·rename_i e; subst e; cases h; rfl
  ·cases h
 ·cases h
def dCs (k : IntKind) : List Cell→Option (List Int)
 | []=>some []
 | c :: t=>match c with
  | .v (.int k' i)=>if k = k' then (dCs k t).map (i :: ·) else none
  | _=>none
theorem Zi7 {k : IntKind} : ∀ {cs : List Cell} {l : List Int},dCs k cs = some l→cs = ints k l
 | [],l,h=>by cases h; rfl
 | c :: t,l,h=>by
  unfold dCs at h;split at h
  ·split at h
   ·rename_i e
    subst e;obtain ⟨m,hm,rfl⟩:=Option.map_eq_some_iff.1 h;rw [Zi7 hm]; rfl
   ·cases h
  ·cases h
def Zgf (k : IntKind) (n : Nat) : PV→Option (Arr n)
 | .agg cs=>match dCs k cs with
  | some l=>if h : l.length = n then some ⟨l,h⟩ else none
  | none=>none
 | _=>none
theorem ZhZ {k : IntKind} {n : Nat} {p : PV} {a : Arr n} (h : Zgf k n p = some a) : p = .agg (arC k a):=by
 unfold Zgf at h;split at h
 ·split at h
  ·rename_i e
   split at h
   ·cases h; rw [Zi7 e]; rfl
   ·cases h
  ·cases h
 ·cases h
def dRs (k : IntKind) : List (List Cell)→Option (List Int)
 | []=>some []
 | r :: t=>match r with
  | [.v (.int k' i)]=>if k = k' then (dRs k t).map (i :: ·) else none
  | _=>none
theorem Zod {k : IntKind} : ∀ {cs : List (List Cell)} {l : List Int},dRs k cs = some l→cs = Ze k l
 | [],l,h=>by cases h; rfl
 | c :: t,l,h=>by
  unfold dRs at h;split at h
  ·split at h
   ·rename_i e
    subst e;obtain ⟨m,hm,rfl⟩:=Option.map_eq_some_iff.1 h;rw [Zod hm]; rfl
   ·cases h
  ·cases h
def ZhH (k : IntKind) : PV→Option (List Int)
 | .one (.slice .no rs)=>dRs k rs
 | _=>none
theorem Zjr {k : IntKind} {p : PV} {l : List Int} (h : ZhH k p = some l) : p = .one (.slice .no (Ze k l)):=by
 unfold ZhH at h;split at h
 ·rw [Zod h]
 ·cases h
def d1 {α : Type} (d : PV→Option α) : List PV→Option α
 | [p]=>d p
 | _=>none
def d2 {α β : Type} (d : PV→Option α) (e : PV→Option β) : List PV→Option (α×β)
 | [p,q]=>match d p,e q with
  | some x,some y=>some (x,y)
  | _,_=>none
 | _=>none
theorem Zf5 {α : Type} {d : PV→Option α} {ea : α→PV} (h : ∀ p x,d p = some x→p = ea x) {ps : List PV} {x : α} (hx : d1 d ps = some x) : ps = [ea x]:=by
 unfold d1 at hx;split at hx
 ·rw [h _ _ hx]
 ·cases hx
theorem Zpu {α β : Type} {d : PV→Option α} {e : PV→Option β} {ea : α→PV} {eb : β→PV} (h : ∀ p x,d p = some x→p = ea x) (k : ∀ p x,e p = some x→p = eb x) {ps : List PV} {x : α×β} (hx : d2 d e ps = some x) : ps = [ea x.1,eb x.2]:=by
 unfold d2 at hx;split at hx
 ·split at hx
  ·rename_i h1 h2
   cases hx
   rw [h _ _ h1,k _ _ h2]
  ·cases hx
 ·cases hx
end Go.Av
end
section
namespace Go.Av
open Go.RowKit
open Go.Lc
set_option linter.unusedVariables false
def dHdr : PV→Option Tapi_Header
 | .agg (.v (.int .u32 a) :: l)=>match dCs .u8 (l.take 32),dCs .u8 ((l.drop 32).take 32),l.drop 64 with
  | some p,some q,[.v (.int .u32 t),.v (.int .u32 b),.v (.int .u32 n)]=>if h : p.length = 32 then if k : q.length = 32 then some (a,⟨p,h⟩,⟨q,k⟩,t,b,n) else none else none
  | _,_,_=>none
 | _=>none
theorem ZlV {p : PV} {x : Tapi_Header} (h : dHdr p = some x) : p = .agg (.v (.int .u32 x.1) :: (arC .u8 x.2.1++(arC .u8 x.2.2.1++[.v (.int .u32 x.2.2.2.1),.v (.int .u32 x.2.2.2.2.1),.v (.int .u32 x.2.2.2.2.2)]))):=by
 unfold dHdr at h;split at h
 ·rename_i a l
  split at h
  ·rename_i p q t b n h1 h2 h3
   split at h
   ·split at h
    ·injection h with h
     subst h;have e1:=Zi7 h1;have e2:=Zi7 h2
     have e3 : l = l.take 32++((l.drop 32).take 32++l.drop 64):=by
      have : l.drop 64 = (l.drop 32).drop 32:=by rw [List.drop_drop]
      rw [this,List.take_append_drop,List.take_append_drop]
     rw [e1,e2,h3] at e3;rw [e3];rfl
    ·cases h
   ·cases h
  ·cases h
 ·cases h
end Go.Av
namespace Go.Lc
open Go.Av
theorem Zqo (x : Tapi_Header) : Le (ZfX (Zfi x)) (ZbZ x):=fun r h=>by
 obtain ⟨rfl,_⟩:=ZhC h;exact Zpk x
theorem Zpn (x : Tapi_Header) : Le (ZfX (Zfi x)) (Zb2 x):=fun r h=>by
 obtain ⟨rfl,_⟩:=ZhC h;exact Zob x
end Go.Lc
end
section
namespace Go.Av
open Go.RowKit
open Go.Lc
set_option linter.unusedVariables false
def eqL {α : Type} (f : α→α→Bool) : List α→List α→Bool
 | [],[]=>true
 | a :: l,b :: m=>f a b && eqL f l m
 | _,_=>false
theorem Zet {α : Type} {f : α→α→Bool} (h : ∀ a b,f a b = true→a = b) : ∀ {l m : List α},eqL f l m = true→l = m
 | [],[],_=>rfl
 | a :: l,b :: m,k=>by
  obtain ⟨k1,k2⟩:=Bool.and_eq_true_iff.1 k;rw [h _ _ k1,Zet h k2]
 | [],_ :: _,k=>by cases k
 | _ :: _,[],k=>by cases k
def eqI : Int→Int→Bool
 | .ofNat a,.ofNat b=>Nat.beq a b
 | .negSucc a,.negSucc b=>Nat.beq a b
 | _,_=>false
theorem eqI_ok : ∀ {a b : Int},eqI a b = true→a = b
 | .ofNat a,.ofNat b,h=>by rw [Nat.eq_of_beq_eq_true h]
 | .negSucc a,.negSucc b,h=>by rw [Nat.eq_of_beq_eq_true h]
 | .ofNat _,.negSucc _,h=>by cases h
 | .negSucc _,.ofNat _,h=>by cases h
def eqC : Nat→Cell→Cell→Bool
 | 0,_,_=>false
 | n + 1,c,d=>match c,d with
  | .v (.int k a),.v (.int k' b)=>decide (k = k') && eqI a b
  | .v (.bool a),.v (.bool b)=>decide (a = b)
  | .slice o r,.slice o' s=>decide (o = o') && eqL (eqL (eqC n)) r s
  | .own e r,.own e' s=>Nat.beq e e' && eqL (eqL (eqC n)) r s
  | _,_=>false
theorem eqC_ok : ∀ {n : Nat} {c d : Cell},eqC n c d = true→c = d:=by
 intro n;induction n with
 | zero=>intro c d h; simp [eqC] at h
 | succ n ih =>
  intro c d h;simp only [eqC] at h;split at h
  ·obtain ⟨h1,h2⟩:=Bool.and_eq_true_iff.1 h; rw [of_decide_eq_true h1,eqI_ok h2]
  ·rw [of_decide_eq_true h]
  ·obtain ⟨h1,h2⟩:=Bool.and_eq_true_iff.1 h; rw [of_decide_eq_true h1,Zet (fun _ _ k=>Zet (fun _ _ q=>ih q) k) h2]
  ·obtain ⟨h1,h2⟩:=Bool.and_eq_true_iff.1 h; rw [Nat.eq_of_beq_eq_true h1,Zet (fun _ _ k=>Zet (fun _ _ q=>ih q) k) h2]
  ·cases h
def eqP : PV→PV→Bool
 | .one c,.one d=>eqC 6 c d
 | .agg l,.agg m=>eqL (eqC 6) l m
 | .io l,.io m=>eqL (eqC 6) l m
 | .ref l,.ref m=>eqL (eqC 6) l m
 | _,_=>false
theorem eqP_ok : ∀ {p q : PV},eqP p q = true→p = q:=by
 intro p q h;unfold eqP at h;split at h
 ·rw [eqC_ok h]
 ·rw [Zet (fun _ _ k=>eqC_ok k) h]
 ·rw [Zet (fun _ _ k=>eqC_ok k) h]
 ·rw [Zet (fun _ _ k=>eqC_ok k) h]
 ·cases h
noncomputable def cst (A : List PV) (V : PV×List (List Cell)) : List PV→Option (PV×List (List Cell)):=fun ps=>Bool.rec (motive:=fun _=>Option (PV×List (List Cell))) none (some V) (eqL eqP ps A)
theorem Zb3 {P : Program} {G : Glob} {f : FuncId} {F : List PV→Option (PV×List (List Cell))} {A : List PV} {V : PV×List (List Cell)} (h : Zi P G f F) (hv : F A = some V) : Zi P G f (cst A V):=ZhF h fun ps r k=>by
 unfold cst at k;cases e : eqL eqP ps A with
 | false=>rw [e] at k; cases k
 | true =>
  rw [e] at k;obtain rfl:=Option.some.inj k;rw [Zet (fun _ _ q=>eqP_ok q) e];exact hv
noncomputable def gvF {α β : Type} (dec : List PV→Option α) (g : α→Option β) (R : α→β→PV×List (List Cell)) : List PV→Option (PV×List (List Cell)):=fun ps=>match dec ps with
 | some x=>(g x).map (R x)
 | none=>none
theorem Zb4 {P : Program} {G : Glob} {f : FuncId} {α β : Type} {enc : α→List PV} {g g' : α→Option β} {R : α→β→PV×List (List Cell)} (hi : ∀ a b,enc a = enc b→a = b) (v : Zi P G f (XG enc fun x=>(g x).map (R x))) (dec : List PV→Option α) (hd : ∀ ps x,dec ps = some x→ps = enc x) (hle : ∀ x,Le (g' x) (g x)) : Zi P G f (gvF dec g' R):=by
 refine ZhF v fun ps r h=>?_
 unfold gvF at h;split at h
 ·rename_i x hx
  obtain ⟨y,hy,rfl⟩:=Option.map_eq_some_iff.1 h;rw [hd _ _ hx];exact Xh hi (hle x y hy)
 ·cases h
end Go.Av
end
section
namespace Go.Av
theorem Zqp {x : Int} (h : (Lit.int .i64 x).wf = true) : -9223372036854775808≤x∧x≤9223372036854775807:=by simpa [Lit.wf,IntKind.has,IntKind.min,IntKind.max,IntKind.signed,IntKind.bits] using h
theorem Zk9 {x : Int} (h : (Lit.int .u8 x).wf = true) : 0≤x∧x≤255:=by simpa [Lit.wf,IntKind.has,IntKind.min,IntKind.max,IntKind.signed,IntKind.bits] using h
end Go.Av
end
