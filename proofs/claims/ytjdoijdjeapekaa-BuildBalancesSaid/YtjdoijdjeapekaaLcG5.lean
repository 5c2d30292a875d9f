import Derived.Test.YtjdoijdjeapekaaLcG2
import Derived.Test.YtjdoijdjeapekaaLcG4
import Derived.KernelRfl
import Derived.Test.YtjdoijdjeapekaaLcG3
section
namespace Go.Lc
open Go.RowKit
open Go.Av
set_option maxRecDepth 100000
set_option linter.unusedSimpArgs false
set_option linter.unusedVariables false
end Go.Lc
end
section
/- lists of signatures: their order,and what two of them are together -/
namespace Go.Lc
open Go.RowKit
open Go.Av
set_option linter.unusedVariables false
set_option linter.unusedSimpArgs false
set_option maxRecDepth 100000

/-! numbers of four digits,and the order of signatures -/
def cmp4 (a b : Arr 4) : Int :=
 if a.at 3 < b.at 3 then -1 else if b.at 3 < a.at 3 then 1 else if a.at 2 < b.at 2 then -1 else if b.at 2 < a.at 2 then 1 else if a.at 1 < b.at 1 then -1 else if b.at 1 < a.at 1 then 1 else if a.at 0 < b.at 0 then -1 else if b.at 0 < a.at 0 then 1 else 0
def ltS (s t : Tapi_Signed) : Prop:=s.1 < t.1∨s.1 = t.1∧cmp4 s.2.1 t.2.1 < 0
noncomputable instance (s t : Tapi_Signed) : Decidable (ltS s t):=by unfold ltS; infer_instance
theorem cmp4_self (a : Arr 4) : cmp4 a a = 0:=by simp [cmp4]
theorem cmp4_lt {a b : Arr 4} : cmp4 a b < 0↔(a.at 3 < b.at 3∨a.at 3 = b.at 3∧(a.at 2 < b.at 2∨a.at 2 = b.at 2∧(a.at 1 < b.at 1∨a.at 1 = b.at 1∧a.at 0 < b.at 0))):=by
 unfold cmp4
 repeat' split
 all_goals omega
theorem ltS_irr (s : Tapi_Signed) : ¬ ltS s s:=by
 unfold ltS;rw [cmp4_self];omega
theorem ltS_trans {s t u : Tapi_Signed} (h : ltS s t) (h' : ltS t u) : ltS s u:=by
 unfold ltS at *;rw [cmp4_lt] at *;omega
/-! ascending lists -/
abbrev Asc (l : List Tapi_Signed) : Prop:=l.Pairwise ltS
theorem asc_ext {l m : List Tapi_Signed} (hl : Asc l) (hm : Asc m) (h : ∀ s,s∈l↔s∈m) : l = m:=by
 induction l generalizing m with
 | nil =>
  cases m with
  | nil=>rfl
  | cons b m=>exact absurd ((h b).2 (by simp)) (by simp)
 | cons a l ih =>
  cases m with
  | nil=>exact absurd ((h a).1 (by simp)) (by simp)
  | cons b m =>
   have hl' := List.pairwise_cons.1 hl;have hm' := List.pairwise_cons.1 hm
   have hab : a = b:=by
    rcases List.mem_cons.1 ((h a).1 (by simp)) with e | e
    ·exact e
    ·rcases List.mem_cons.1 ((h b).2 (by simp)) with f | f
     ·exact f.symm
     ·exact absurd (ltS_trans (hl'.1 b f) (hm'.1 a e)) (ltS_irr a)
   subst hab
   congr 1
   refine ih hl'.2 hm'.2 fun s=>?_
   constructor
   ·intro hs
    rcases List.mem_cons.1 ((h s).1 (List.mem_cons_of_mem _ hs)) with e | e
    ·subst e; exact absurd (hl'.1 s hs) (ltS_irr s)
    ·exact e
   ·intro hs
    rcases List.mem_cons.1 ((h s).2 (List.mem_cons_of_mem _ hs)) with e | e
    ·subst e; exact absurd (hm'.1 s hs) (ltS_irr s)
    ·exact e
/-- what both have,in order -/
def Union (x y z : List Tapi_Signed) : Prop:=Asc z∧∀ s,s∈z↔s∈x∨s∈y
theorem Union.ext {x y z z' : List Tapi_Signed} (h : Union x y z) (h' : Union x y z') : z = z' := asc_ext h.1 h'.1 fun s=>(h.2 s).trans (h'.2 s).symm
end Go.Lc
end
section
/- merging two lists of signatures: the program's way and the reference's give the same -/
namespace Go.Lc
open Go.RowKit
open Go.Av
set_option linter.unusedVariables false
set_option linter.unusedSimpArgs false
set_option maxRecDepth 100000

/-! a place in the list -/
/-! a signature is put into its place -/
/-! the reference's merge -/
/-! the program's merge -/
end Go.Lc
end
section
/- numbers of four digits as bytes,and back -/
namespace Go.Lc
open Go.RowKit
open Go.Av
set_option linter.unusedVariables false
set_option linter.unusedSimpArgs false
set_option maxRecDepth 100000

def ordA : Arr 4:=(((zA 4).put 0 18446744073709533559).put 1 18446744073709551615).put 2 18446744073709551615 |>.put 3 9223372036854775807
/-- a scalar -/
def scal (a : Arr 4) : Prop:=cmp4 a ordA < 0
instance (a : Arr 4) : Decidable (scal a):=by unfold scal; infer_instance
end Go.Lc
end
section
/- plans and partial transactions: copies,comparisons,validity -/
namespace Go.Lc
open Go.RowKit
open Go.Av
set_option linter.unusedVariables false
set_option linter.unusedSimpArgs false
set_option maxRecDepth 100000

/-! copies -/
/-- a plan whose lists are short -/
structure PlanB (p : Tapi_Plan) : Prop where
 inl : p.1.2.1.length≤1000
 inw : ∀ x∈p.1.2.1,x.2.2 = []
 oul : p.1.2.2.1.length≤1000
 ous : ∀ o∈p.1.2.2.1,o.2.length≤1000000
 col : p.2.1.length≤1000
 cos : ∀ c∈p.2.1,c.2.1.2.length≤1000000
/-! comparisons -/
theorem rout_self (o : Tapi_Output) : Lref09_SameOut o o = some true:=by
 unfold Lref09_SameOut Lref01_Same;simp
/-! validity -/
end Go.Lc
end
section
/- Law 36: what a transaction that is put into a pool pays. -/
namespace Go.Lc
open Go.RowKit
open Go.Av
set_option linter.unusedVariables false
set_option linter.unusedSimpArgs false
set_option maxRecDepth 100000

theorem filter_take {α : Type} {l : List α} {i : Nat} (h : i < l.length) (c : α→Bool) : (l.take (i + 1)).filter c = (l.take i).filter c++if c l[i] = true then [l[i]] else []:=by
 rw [List.take_succ_eq_append_getElem h,List.filter_append]
 congr 1
 by_cases hc : c l[i] = true <;> simp [hc]
end Go.Lc
end
section
/- Law 36: sound pools. -/
namespace Go.Lc
open Go.RowKit
open Go.Av
set_option linter.unusedVariables false
set_option linter.unusedSimpArgs false
set_option maxRecDepth 100000

theorem mget_put {K : Type} [DecidableEq K] (k a : K) : ∀ m : List (K×Bool),(mget k (mput a true m)).getD false = (decide (k = a) || (mget k m).getD false)
 | []=>by
  simp only [mput,mget];by_cases h : k = a <;> simp [h]
 | (b,v) :: m=>by
  have ih:=mget_put k a m;by_cases h : a = b
  ·subst h
   by_cases h2 : k = a <;> simp [mput,mget,h2]
  ·simp only [mput,if_neg h,mget]
   by_cases h2 : k = b
   ·subst h2
    simp [Ne.symm h]
   ·simp only [if_neg h2,ih]
/-- a set of keys as a map -/
def mpL {K : Type} [DecidableEq K] (l : List K) : List (K×Bool):=l.foldl (fun m k=>mput k true m) []
theorem mpL_app {K : Type} [DecidableEq K] (l : List K) (k : K) : mpL (l++[k]) = mput k true (mpL l):=by simp [mpL,List.foldl_append]
theorem mpL_fold {K : Type} [DecidableEq K] (k : K) : ∀ (l : List K) (m : List (K×Bool)),(mget k (l.foldl (fun m k=>mput k true m) m)).getD false = (decide (k∈l) || (mget k m).getD false)
 | [],m=>by simp
 | a :: l,m=>by
  rw [List.foldl_cons,mpL_fold k l,mget_put];by_cases h : k = a <;> by_cases h2 : k∈l <;> simp [h,h2]
theorem mpL_get {K : Type} [DecidableEq K] (k : K) (l : List K) : (mget k (mpL l)).getD false = decide (k∈l):=by
 unfold mpL;rw [mpL_fold];simp [mget]
end Go.Lc
end
section
/- Law 36: pools and heirs are small. -/
namespace Go.Lc
open Go.RowKit
open Go.Av
set_option linter.unusedVariables false

theorem mem_app1 {α : Type} {P : α→Prop} {l : List α} {a : α} (h : ∀ x∈l,P x) (ha : P a) : ∀ x∈l++[a],P x:=by
 intro x hx;rcases List.mem_append.1 hx with hx | hx
 ·exact h x hx
 ·rw [List.mem_singleton.1 hx]; exact ha
section
variable {y : Tapi_Tx×Tlightclientmill_Deck} {pool : List Tapi_Entry} {k : Int} {n : Nat}
end
end Go.Lc
end
section
/- Law 36: an inserted transaction pays more than what it replaces. -/
namespace Go.Lc
open Go.RowKit
open Go.Av
set_option linter.unusedVariables false
set_option linter.unusedSimpArgs false
set_option maxRecDepth 100000

end Go.Lc
end
section
/- Law 34: choosing coins: what the search finds. -/
namespace Go.Lc
open Go.RowKit
open Go.Av
set_option linter.unusedVariables false
set_option linter.unusedSimpArgs false
set_option maxRecDepth 100000

/-! totals -/
theorem sel_total {l : List Int} (h0 : ∀ v∈l,0≤v) (hs : sumI l≤1000000000000000000) (hl : l.length≤1000) : Lselection_total l = some (sumI l):=by
 unfold Lselection_total
 have:=runLoop_to (step:=Lselection_total_s1 l) (fun i=>(sumI (l.take i),(i : Int))) l.length (x:=some (sumI l)) (fun i hi=>by
  have h1:=sumI_take hi;have h2:=sumI_mono h0 (i + 1);have h3:=sumI_pos (l:=l.take i) fun v hv=>h0 v (List.mem_of_mem_take hv)
  have h4:=h0 _ (List.getElem_mem hi);simp only [Lselection_total_s1];rw [if_pos (by omega),idx_bind hi,wi_succ hi (by omega),wi _ (by omega),h1]) (by
  simp only [Lselection_total_s1];rw [if_neg (by omega),List.take_length]
  rfl)
 simpa [sumI] using this
theorem sel_check {l : List Int} {t : Int} (h0 : ∀ v∈l,1≤v∧v≤2100000000000000) (hl : l.length≤16) (ht : 1≤t∧t≤2100000000000000) : Lselection_check l t = some 0:=by
 unfold Lselection_check;rw [if_neg (by omega)];refine runLoop_to (step:=Lselection_check_s1 l t) (fun i=>(i : Int)) l.length (x:=some 0) (fun i hi=>?_) ?_
 ·have:=h0 _ (List.getElem_mem hi)
  simp only [Lselection_check_s1];rw [if_pos (by omega),idx_bind hi,if_neg (by omega),wi_succ hi (by omega)]
 ·simp only [Lselection_check_s1]
  rw [if_neg (by omega)];unfold Lselection_check_k1;rw [if_neg (by omega)]

/-! the search -/
abbrev BestS:=List Nat×Int
def updV (t : Int) (s : Int) (tk : List Nat) (b : BestS) : BestS:=if b.1.length = 0∨s < b.2 then (tk,s) else b
def visV (t : Int) : List Int→Nat→Int→List Nat→BestS→BestS
 | [],i,s,tk,b=>if t≤s then updV t s tk b else b
 | v :: r,i,s,tk,b=>if t≤s then updV t s tk b else visV t r (i + 1) s tk (visV t r (i + 1) (s + v) (tk++[i]) b)
theorem visV_cons (t v : Int) (r : List Int) (i : Nat) (s : Int) (tk : List Nat) (b : BestS) : visV t (v :: r) i s tk b = if t≤s then updV t s tk b else visV t r (i + 1) s tk (visV t r (i + 1) (s + v) (tk++[i]) b):=by rw [visV]
def up (l : List Nat) : List Int:=l.map fun n : Nat=>(n : Int)
theorem up_app (l : List Nat) (i : Nat) : up l++[(i : Int)] = up (l++[i]):=by simp [up]
theorem up_len (l : List Nat) : (up l).length = l.length:=by simp [up]
theorem vis_n (vals : List Int) (t : Int) (hl : vals.length≤16) (hv : ∀ v∈vals,0≤v) : ∀ (n : Nat) (rem : List Int) (i : Nat) (s : Int) (tk : List Nat) (b : BestS),vals.drop i = rem→i≤vals.length→tk.length≤i→0≤s→s + sumI rem≤1000000000000000000 →
  (Lselection_search_visit_n n (vals,t,up tk,(up b.1,b.2)) (i : Int) s = some (vals,t,up tk,(up (visV t rem i s tk b).1,(visV t rem i s tk b).2))∨Lselection_search_visit_n n (vals,t,up tk,(up b.1,b.2)) (i : Int) s = none) ∧
  (rem.length < n→Lselection_search_visit_n n (vals,t,up tk,(up b.1,b.2)) (i : Int) s = some (vals,t,up tk,(up (visV t rem i s tk b).1,(visV t rem i s tk b).2))):=by
 intro n;induction n with
 | zero =>
  intro rem i s tk b _ _ _ _ _;exact ⟨.inr rfl,fun h=>by omega⟩
 | succ n ih =>
  intro rem i s tk b hd hi htk hs hsum;have hrl : rem.length = vals.length - i:=by rw [← hd,List.length_drop]
  have leaf : t≤s→∀ x : BestS,x = updV t s tk b→Lselection_search_visit_n (n + 1) (vals,t,up tk,(up b.1,b.2)) (i : Int) s = some (vals,t,up tk,(up x.1,x.2)):=by
   intro ht x hx;subst hx;show Lselection_search_visit_b (Lselection_search_visit_n n) _ _ _ = _
   unfold Lselection_search_visit_b Lslices_Clone_of__int_int Lselection_search_visit_k1 updV;dsimp only;rw [if_pos ht,up_len];by_cases hb : b.1.length = 0∨s < b.2
   ·rw [if_pos (by omega),if_pos hb,chk_bind (by rw [up_len]; omega),bind_some']
   ·rw [if_neg (by omega),if_neg hb]
  cases rem with
  | nil =>
   have he : i = vals.length:=by simp at hrl; omega
   have key : Lselection_search_visit_n (n + 1) (vals,t,up tk,(up b.1,b.2)) (i : Int) s = some (vals,t,up tk,(up (visV t [] i s tk b).1,(visV t [] i s tk b).2)):=by
    by_cases ht : t≤s
    ·exact leaf ht _ (by unfold visV; rw [if_pos ht])
    ·show Lselection_search_visit_b (Lselection_search_visit_n n) _ _ _ = _
     unfold Lselection_search_visit_b;dsimp only;rw [if_neg ht,if_pos (by omega)];unfold visV;rw [if_neg ht]
   exact ⟨.inl key,fun _=>key⟩
  | cons v r =>
   have hil : i < vals.length:=by simp at hrl; omega
   have hvi : vals[i] = v:=by
    have:=List.drop_eq_getElem_cons hil;rw [hd] at this;exact (List.cons.inj this).1.symm
   have hdr : vals.drop (i + 1) = r:=by
    have:=List.drop_eq_getElem_cons hil;rw [hd] at this;exact (List.cons.inj this).2.symm
   have hv0:=hv _ (List.getElem_mem hil);rw [hvi] at hv0;have hsr : sumI (v :: r) = v + sumI r:=rfl;have hr0 : 0≤sumI r:=sumI_pos fun x hx=>hv x (by rw [← hdr] at hx; exact List.mem_of_mem_drop hx)
   rw [hsr] at hsum;by_cases ht : t≤s
   ·have:=leaf ht (visV t (v :: r) i s tk b) (by rw [visV_cons,if_pos ht])
    exact ⟨.inl this,fun _=>this⟩
   ·have hV : visV t (v :: r) i s tk b = visV t r (i + 1) s tk (visV t r (i + 1) (s + v) (tk++[i]) b):=by
     rw [visV_cons,if_neg ht]
    obtain ⟨a1,a2⟩:=ih r (i + 1) (s + v) (tk++[i]) b hdr (by omega) (by simp; omega) (by omega) (by omega);obtain ⟨c1,c2⟩:=ih r (i + 1) s tk (visV t r (i + 1) (s + v) (tk++[i]) b) hdr (by omega) (by omega) hs (by omega);have e1 : IntKind.i64.wrap ((i : Int) + 1) = ((i + 1 : Nat) : Int):=wi_succ hil (by omega);have e2 : IntKind.i64.wrap (s + v) = s + v:=wi _ (by omega)
    have hun : Lselection_search_visit_n (n + 1) (vals,t,up tk,(up b.1,b.2)) (i : Int) s = (Lselection_search_visit_n n (vals,t,up (tk++[i]),(up b.1,b.2)) ((i + 1 : Nat) : Int) (s + v)).bind fun y7=>(chk (IntKind.i64.wrap ((y7.2.2.1.length : Int) - 1)≤(y7.2.2.1.length : Int)∧0≤IntKind.i64.wrap ((y7.2.2.1.length : Int) - 1))).bind fun _=>(Lselection_search_visit_n n (y7.1,y7.2.1,(y7.2.2.1).take (IntKind.i64.wrap ((y7.2.2.1.length : Int) - 1)).toNat,(y7.2.2.2.1,y7.2.2.2.2)) ((i + 1 : Nat) : Int) s).bind fun y9=>some ((y9.1,y9.2.1,y9.2.2.1,(y9.2.2.2.1,y9.2.2.2.2))):=by
     show Lselection_search_visit_b (Lselection_search_visit_n n) _ _ _ = _
     unfold Lselection_search_visit_b;dsimp only;rw [if_neg ht,if_neg (by omega),chk_bind (by rw [up_len]; omega),idx_bind hil,hvi,e1,e2,up_app]
    have hlen : (up (tk++[i])).length = tk.length + 1:=by rw [up_len]; simp
    have htake : (up (tk++[i])).take tk.length = up tk:=by
     rw [← up_app,← up_len tk,List.take_left]
    have cont : ∀ q : BestS,((chk (IntKind.i64.wrap (((up (tk++[i])).length : Int) - 1)≤((up (tk++[i])).length : Int)∧0≤IntKind.i64.wrap (((up (tk++[i])).length : Int) - 1))).bind fun _=>(Lselection_search_visit_n n (vals,t,(up (tk++[i])).take (IntKind.i64.wrap (((up (tk++[i])).length : Int) - 1)).toNat,(up q.1,q.2)) ((i + 1 : Nat) : Int) s).bind fun y9=>some ((y9.1,y9.2.1,y9.2.2.1,(y9.2.2.2.1,y9.2.2.2.2)))) = (Lselection_search_visit_n n (vals,t,up tk,(up q.1,q.2)) ((i + 1 : Nat) : Int) s):=by
     intro q;rw [hlen,wi _ (by omega),chk_bind (by omega),show (((tk.length + 1 : Nat) : Int) - 1).toNat = tk.length by omega,htake];cases Lselection_search_visit_n n (vals,t,up tk,(up q.1,q.2)) ((i + 1 : Nat) : Int) s <;> rfl
    rw [hun,hV];refine ⟨?_,fun h=>?_⟩
    ·rcases a1 with a1 | a1
     ·rw [a1,bind_some']
      dsimp only;rw [cont];exact c1
     ·rw [a1]
      exact .inr rfl
    ·rw [List.length_cons] at h
     rw [a2 (by omega),bind_some'];dsimp only;rw [cont];exact c2 (by omega)
theorem vis_eq {vals : List Int} {t : Int} (hl : vals.length≤16) (hv : ∀ v∈vals,0≤v) (hs : sumI vals≤1000000000000000000) : Lselection_search_visit (vals,t,[],([],0)) 0 0 = some (vals,t,[],(up (visV t vals 0 0 [] ([],0)).1,(visV t vals 0 0 [] ([],0)).2)):=by
 unfold Lselection_search_visit;have key:=fun n=>vis_n vals t hl hv n vals 0 0 [] ([],0) rfl (by omega) (by simp) (by omega) (by omega)
 refine fixN_of (fun n x h=>?_) ⟨vals.length + 1,(key _).2 (by omega)⟩;rcases (key n).1 with g | g
 ·exact Option.some.inj (h.symm.trans g)
 ·cases h.symm.trans g
/-- what places pick -/
def picks {α : Type} (l : List α) (ns : List Nat) : List α:=ns.filterMap fun i=>l[i]?
theorem picks_range {α : Type} (l : List α) : ∀ n,n≤l.length→picks l (List.range n) = l.take n:=by
 intro n;induction n with
 | zero=>intro _; simp [picks]
 | succ n ih =>
  intro h;unfold picks at *;rw [List.range_succ,List.filterMap_append,ih (by omega),List.take_succ_eq_append_getElem (by omega)];simp [List.getElem?_eq_getElem (show n < l.length by omega)]
theorem picks_sub {α : Type} {l : List α} {ns : List Nat} (h : ns.Sublist (List.range l.length)) : (picks l ns).Sublist l:=by
 have:=h.filterMap fun i=>l[i]?
 have e:=picks_range l l.length (Nat.le_refl _);rw [List.take_length] at e;unfold picks at e ⊢
 rwa [e] at this
def GoodV (vals : List Int) (t : Int) (b : BestS) : Prop:=b.1.Sublist (List.range vals.length)∧sumI (picks vals b.1) = b.2∧t≤b.2∧b.1≠[]
theorem picks_app {α : Type} {l : List α} {ns : List Nat} {i : Nat} (h : i < l.length) : picks l (ns++[i]) = picks l ns++[l[i]]:=by
 unfold picks;rw [List.filterMap_append];simp [h]
theorem visV_good {vals : List Int} {t : Int} (ht : 1≤t) (hv : ∀ v∈vals,0≤v) : ∀ (rem : List Int) (i : Nat) (s : Int) (tk : List Nat) (b : BestS),vals.drop i = rem→i≤vals.length→tk.Sublist (List.range i)→sumI (picks vals tk) = s→(b.1 = []∨GoodV vals t b) →
  ((visV t rem i s tk b).1 = []∨GoodV vals t (visV t rem i s tk b))∧(GoodV vals t b→GoodV vals t (visV t rem i s tk b))∧(t≤s + sumI rem→GoodV vals t (visV t rem i s tk b)):=by
 have hup : ∀ (i : Nat) (s : Int) (tk : List Nat) (b : BestS),i≤vals.length→tk.Sublist (List.range i)→sumI (picks vals tk) = s→(b.1 = []∨GoodV vals t b)→t≤s→GoodV vals t (updV t s tk b):=by
  intro i s tk b hi htk hs hb hts
  have g : GoodV vals t (tk,s):=⟨htk.trans (List.range_sublist.2 hi),hs,hts,fun h=>by
   dsimp only at h;rw [h] at hs;simp [picks,sumI] at hs
   omega⟩
  unfold updV;split
  ·exact g
  ·rename_i hn
   rcases hb with hb | hb
   ·exact (hn (.inl (by rw [hb]; rfl))).elim
   ·exact hb
 intro rem;induction rem with
 | nil =>
  intro i s tk b hd hi htk hs hb;unfold visV;by_cases h : t≤s
  ·rw [if_pos h]
   have:=hup i s tk b hi htk hs hb h;exact ⟨.inr this,fun _=>this,fun _=>this⟩
  ·rw [if_neg h]
   exact ⟨hb,fun g=>g,fun g=>by simp [sumI] at g; omega⟩
 | cons v r ih =>
  intro i s tk b hd hi htk hs hb
  have hil : i < vals.length:=by
   have:=congrArg List.length hd;simp at this
   omega
  have hcons:=List.drop_eq_getElem_cons hil;rw [hd] at hcons;have hvi : vals[i] = v:=(List.cons.inj hcons).1.symm;have hdr : vals.drop (i + 1) = r:=(List.cons.inj hcons).2.symm;rw [visV_cons];by_cases h : t≤s
  ·rw [if_pos h]
   have:=hup i s tk b hi htk hs hb h;exact ⟨.inr this,fun _=>this,fun _=>this⟩
  ·rw [if_neg h]
   have htk1 : (tk++[i]).Sublist (List.range (i + 1)):=by rw [List.range_succ]; exact htk.append (List.Sublist.refl _)
   have htk2 : tk.Sublist (List.range (i + 1)):=htk.trans (List.range_sublist.2 (by omega));have hs1 : sumI (picks vals (tk++[i])) = s + v:=by rw [picks_app hil,sumI_app,hs,hvi]; simp [sumI]
   obtain ⟨p1,p2,p3⟩:=ih (i + 1) (s + v) (tk++[i]) b hdr (by omega) htk1 hs1 hb;obtain ⟨q1,q2,q3⟩:=ih (i + 1) s tk _ hdr (by omega) htk2 hs p1;refine ⟨q1,fun g=>q2 (p2 g),fun g=>q2 (p3 ?_)⟩;have : sumI (v :: r) = v + sumI r:=rfl;omega

/-! the certificate -/
def braV (t sm : Int) : List Int→Int→List Int→List Int
 | [],tk,tr=>if 16384 < tr.length then tr else tr++[2]
 | v :: r,tk,tr=>if 16384 < tr.length then tr else if sm≤tk∨tk + sumI (v :: r) < t then tr++[2] else braV t sm r tk (braV t sm r (tk + v) (tr++[1]))
theorem braV_len (t sm : Int) : ∀ (r : List Int) (tk : Int) (tr : List Int),(braV t sm r tk tr).length + 1≤tr.length + 2 ^ (r.length + 1):=by
 intro r;induction r with
 | nil =>
  intro tk tr;unfold braV;split <;> simp
 | cons v r ih =>
  intro tk tr;have h1:=ih (tk + v) (tr++[1]);have h2:=ih tk (braV t sm r (tk + v) (tr++[1]));have h3 : 2 ^ ((v :: r).length + 1) = 2 ^ (r.length + 1) + 2 ^ (r.length + 1):=by rw [List.length_cons,Nat.pow_succ 2 (r.length + 1)]; omega
  have h4:=Nat.one_le_two_pow (n:=r.length + 1);rw [List.length_append,List.length_singleton] at h1;unfold braV;split
  ·omega
  ·split
   ·rw [List.length_append,List.length_singleton]; omega
   ·omega
theorem ends_eq {vals : List Int} {t sm tk : Int} {tr : List Int} {i : Nat} (hl : vals.length≤16) (hv : ∀ v∈vals,0≤v) (hi : i≤vals.length) (h0 : 0≤tk) (hs : tk + sumI (vals.drop i)≤1000000000000000000) : Lselection_certificate_ends (vals,t,sm,tr) (i : Int) tk = some (decide (sm≤tk∨tk + sumI (vals.drop i) < t),(vals,t,sm,tr)):=by
 have hv' : ∀ v∈vals.drop i,0≤v:=fun v h=>hv v (List.mem_of_mem_drop h)
 have hp:=sumI_pos hv';unfold Lselection_certificate_ends;dsimp only;by_cases h : sm≤tk
 ·rw [if_pos h,bind_some']
  simp [h]
 ·rw [if_neg h,chk_bind (by omega),Int.toNat_natCast,sel_total hv' (by omega) (by simp; omega),bind_some',bind_some',wi _ (by omega)]
  simp [h]
theorem bra_n (vals : List Int) (t sm : Int) (hl : vals.length≤16) (hv : ∀ v∈vals,0≤v) : ∀ (n : Nat) (rem : List Int) (i : Nat) (tk : Int) (tr : List Int),vals.drop i = rem→i≤vals.length→0≤tk→tk + sumI rem≤1000000000000000000 →
  (Lselection_certificate_branch_n n (vals,t,sm,tr) (i : Int) tk = some (vals,t,sm,braV t sm rem tk tr)∨Lselection_certificate_branch_n n (vals,t,sm,tr) (i : Int) tk = none) ∧
  (rem.length < n→Lselection_certificate_branch_n n (vals,t,sm,tr) (i : Int) tk = some (vals,t,sm,braV t sm rem tk tr)):=by
 intro n;induction n with
 | zero =>
  intro rem i tk tr _ _ _ _;exact ⟨.inr rfl,fun h=>by omega⟩
 | succ n ih =>
  intro rem i tk tr hd hi h0 hsum;have hrl : rem.length = vals.length - i:=by rw [← hd,List.length_drop]
  have he:=ends_eq (t:=t) (sm:=sm) (tr:=tr) hl hv hi h0 (by rw [hd]; exact hsum);rw [hd] at he
  have hun : Lselection_certificate_branch_n (n + 1) (vals,t,sm,tr) (i : Int) tk = if 16384 < tr.length then some (vals,t,sm,tr) else if (sm≤tk∨tk + sumI rem < t)∨i = vals.length then some (vals,t,sm,tr++[2]) else (idx vals (i : Int)).bind fun x4=>(Lselection_certificate_branch_n n (vals,t,sm,tr++[1]) (IntKind.i64.wrap ((i : Int) + 1)) (IntKind.i64.wrap (tk + x4))).bind fun y5=>(Lselection_certificate_branch_n n (y5.1,y5.2.1,y5.2.2.1,y5.2.2.2) (IntKind.i64.wrap ((i : Int) + 1)) tk).bind fun y6=>some ((y6.1,y6.2.1,y6.2.2.1,y6.2.2.2)):=by
   show Lselection_certificate_branch_b (Lselection_certificate_branch_n n) _ _ _ = _
   unfold Lselection_certificate_branch_b;dsimp only;by_cases ht : 16384 < tr.length
   ·rw [if_pos (by omega),if_pos ht]
   ·rw [if_neg (by omega),if_neg ht,he,bind_some']
    dsimp only;by_cases hc : (sm≤tk∨tk + sumI rem < t)∨i = vals.length
    ·rw [if_pos (by simpa using (by omega : (sm≤tk∨tk + sumI rem < t)∨(i : Int) = vals.length)),if_pos hc,chk_bind (by omega)]
    ·rw [if_neg (by simpa using (by omega : ¬ ((sm≤tk∨tk + sumI rem < t)∨(i : Int) = vals.length))),if_neg hc,chk_bind (by omega)]
  rw [hun];cases rem with
  | nil =>
   have hiv : i = vals.length:=by simp at hrl; omega
   have key : (if 16384 < tr.length then some (vals,t,sm,tr) else if (sm≤tk∨tk + sumI [] < t)∨i = vals.length then some (vals,t,sm,tr++[2]) else (idx vals (i : Int)).bind fun x4=>(Lselection_certificate_branch_n n (vals,t,sm,tr++[1]) (IntKind.i64.wrap ((i : Int) + 1)) (IntKind.i64.wrap (tk + x4))).bind fun y5=>(Lselection_certificate_branch_n n (y5.1,y5.2.1,y5.2.2.1,y5.2.2.2) (IntKind.i64.wrap ((i : Int) + 1)) tk).bind fun y6=>some ((y6.1,y6.2.1,y6.2.2.1,y6.2.2.2))) = some (vals,t,sm,braV t sm [] tk tr):=by
    unfold braV;by_cases ht : 16384 < tr.length
    ·rw [if_pos ht,if_pos ht]
    ·rw [if_neg ht,if_neg ht,if_pos (.inr hiv)]
   exact ⟨.inl key,fun _=>key⟩
  | cons v r =>
   have hil : i < vals.length:=by simp at hrl; omega
   have hcons:=List.drop_eq_getElem_cons hil;rw [hd] at hcons;have hvi : vals[i] = v:=(List.cons.inj hcons).1.symm;have hdr : vals.drop (i + 1) = r:=(List.cons.inj hcons).2.symm;have hv0:=hv _ (List.getElem_mem hil);rw [hvi] at hv0;have hsr : sumI (v :: r) = v + sumI r:=rfl;have hr0 : 0≤sumI r:=sumI_pos fun x hx=>hv x (by rw [← hdr] at hx; exact List.mem_of_mem_drop hx)
   unfold braV;by_cases ht : 16384 < tr.length
   ·rw [if_pos ht,if_pos ht]
    exact ⟨.inl rfl,fun _=>rfl⟩
   ·rw [if_neg ht,if_neg ht]
    by_cases hc : sm≤tk∨tk + sumI (v :: r) < t
    ·rw [if_pos (.inl hc),if_pos hc]
     exact ⟨.inl rfl,fun _=>rfl⟩
    ·have hc2 : ¬ ((sm≤tk∨tk + sumI (v :: r) < t)∨i = vals.length):=by
      rintro (h | h)
      ·exact hc h
      ·omega
     rw [if_neg hc2,if_neg hc,idx_bind hil,hvi,wi_succ hil (by omega),wi (tk + v) (by omega)];obtain ⟨a1,a2⟩:=ih r (i + 1) (tk + v) (tr++[1]) hdr (by omega) (by omega) (by omega);obtain ⟨c1,c2⟩:=ih r (i + 1) tk (braV t sm r (tk + v) (tr++[1])) hdr (by omega) h0 (by omega);refine ⟨?_,fun h=>?_⟩
     ·rcases a1 with a1 | a1
      ·rw [a1,bind_some']
       dsimp only;rcases c1 with c1 | c1
       ·rw [c1]; exact .inl rfl
       ·rw [c1]; exact .inr rfl
      ·rw [a1]; exact .inr rfl
     ·rw [List.length_cons] at h
      rw [a2 (by omega),bind_some'];dsimp only;rw [c2 (by omega)];rfl
theorem bra_eq {vals : List Int} {t sm : Int} (hl : vals.length≤16) (hv : ∀ v∈vals,0≤v) (hs : sumI vals≤1000000000000000000) : Lselection_certificate_branch (vals,t,sm,[]) 0 0 = some (vals,t,sm,braV t sm vals 0 []):=by
 unfold Lselection_certificate_branch;have key:=fun n=>bra_n vals t sm hl hv n vals 0 0 [] rfl (by omega) (by omega) (by omega)
 refine fixN_of (fun n x h=>?_) ⟨vals.length + 1,(key _).2 (by omega)⟩;rcases (key n).1 with g | g
 ·exact Option.some.inj (h.symm.trans g)
 ·cases h.symm.trans g
/-- the best selection -/
theorem best_ok {vals : List Int} {t : Int} (hl : vals.length≤10) (hv : ∀ v∈vals,1≤v∧v≤1000000) (ht : 1≤t∧t≤1000000000) : (sumI vals < t∧Lselection_Best vals t = some (([],0),[],320))∨∃ b tr,GoodV vals t b∧Lselection_Best vals t = some ((up b.1,b.2),tr,0):=by
 have hv0 : ∀ v∈vals,0≤v:=fun v h=>by have:=hv v h; omega
 have hs : sumI vals≤vals.length * 1000000:=sumI_le fun v h=>(hv v h).2
 have hs2 : sumI vals≤10000000:=by omega
 unfold Lselection_Best;rw [sel_check (fun v h=>by have:=hv v h; omega) (by omega) (by omega),bind_some',if_neg (by simp),sel_total hv0 (by omega) (by omega),bind_some'];by_cases hc : sumI vals < t
 ·rw [if_pos hc]
  exact .inl ⟨hc,rfl⟩
 ·rw [if_neg hc,vis_eq (by omega) hv0 (by omega),bind_some']
  dsimp only;rw [bra_eq (by omega) hv0 (by omega),bind_some'];dsimp only;have h2:=braV_len t (visV t vals 0 0 [] ([],0)).2 vals 0 [];have h3 : 2 ^ (vals.length + 1)≤2 ^ 11:=Nat.pow_le_pow_right (by omega) (by omega);have h4 : 2 ^ 11 = 2048:=rfl;simp only [List.length_nil] at h2;rw [if_neg (by omega)];refine .inr ⟨visV t vals 0 0 [] ([],0),_,?_,rfl⟩;exact (visV_good ht.1 hv0 vals 0 0 [] ([],0) rfl (by omega) (List.Sublist.refl _) rfl (.inl rfl)).2.2 (by omega)
end Go.Lc
end
section
/- Law 36: pools into which a transaction is put: the program's and the reference's are the same. -/
namespace Go.Lc
open Go.RowKit
open Go.Av
set_option linter.unusedVariables false
set_option linter.unusedSimpArgs false
set_option maxRecDepth 100000

/-! the worst one -/
noncomputable def rtE (e : Tapi_Entry) : Int:=rateS e.2 (weightS e.1)
noncomputable def rtL (l : List Tapi_Entry) (i : Nat) : Int:=(l[i]?).elim 0 rtE
noncomputable def wf (l : List Tapi_Entry) : Nat→Nat
 | 0=>0
 | i + 1=>if rtL l i≤rtL l (wf l i) then i else wf l i
/-! the whole -/
theorem map_take {α β : Type} (f : α→β) {l : List α} {i : Nat} (h : i < l.length) : (l.take (i + 1)).map f = (l.take i).map f++[f l[i]]:=by
 rw [List.take_succ_eq_append_getElem h,List.map_append];rfl
theorem mod_tot' (a : Int) {n : Int} (hn : 0 < n) (hn2 : n≤4611686018427387904) : Tot (Lmill_Mod a n) fun r=>0≤r∧r < n :=
 ⟨_,mod_eq a (by omega) hn2,modS_in a (by omega)⟩
/-! blocks -/
noncomputable def keepB (txs : List Tapi_Tx) (e : Tapi_Entry) : Bool:=txs.all fun t=>!(decide (idS e.1 = idS t)) && !(conS e.1 t)
end Go.Lc
end
