import Derived.Test.YtjdoijdjeapekaaGreatDoorLcG4
import Derived.Test.YtjdoijdjeapekaaGreatDoorLcG3
section
/- merging two lists of signatures: the program's way and the reference's give the same -/
namespace Go.Lc
open Go.RowKit
open Go.Av
set_option linter.unusedVariables false
set_option linter.unusedSimpArgs false
set_option maxRecDepth 100000

/-! a place in the list -/
/-! a signature is put into its place -/
/-! the reference's merge -/
/-! the program's merge -/
end Go.Lc
end
section
/- numbers of four digits as bytes,and back -/
namespace Go.Lc
open Go.RowKit
open Go.Av
set_option linter.unusedVariables false
set_option linter.unusedSimpArgs false
set_option maxRecDepth 100000

theorem zA_at (n i : Nat) : (zA n).at i = 0:=by
 unfold zA Arr.at zs;simp only [List.getD_eq_getElem?_getD,List.getElem?_replicate];split <;> rfl
def ordA : Arr 4:=(((zA 4).put 0 18446744073709533559).put 1 18446744073709551615).put 2 18446744073709551615 |>.put 3 9223372036854775807
/-- a scalar -/
def scal (a : Arr 4) : Prop:=cmp4 a ordA < 0
instance (a : Arr 4) : Decidable (scal a):=by unfold scal; infer_instance
end Go.Lc
end
section
/- plans and partial transactions: copies,comparisons,validity -/
namespace Go.Lc
open Go.RowKit
open Go.Av
set_option linter.unusedVariables false
set_option linter.unusedSimpArgs false
set_option maxRecDepth 100000

/-! copies -/
/-- a plan whose lists are short -/
structure PlanB (p : Tapi_Plan) : Prop where
 inl : p.1.2.1.length≤1000
 inw : ∀ x∈p.1.2.1,x.2.2 = []
 oul : p.1.2.2.1.length≤1000
 ous : ∀ o∈p.1.2.2.1,o.2.length≤1000000
 col : p.2.1.length≤1000
 cos : ∀ c∈p.2.1,c.2.1.2.length≤1000000
theorem set_same {α : Type} {l : List α} {i : Nat} (h : i < l.length) {x : α} (hx : x = l[i]) : l.set i x = l:=by
 subst hx;exact List.set_getElem_self h
/-! comparisons -/
theorem loop_all {step : Int→Option (Int ⊕ Bool)} (n : Nat) (hn : n≤9223372036854775807) (h : ∀ i,i < n→step (i : Int) = some (.inl (IntKind.i64.wrap ((i : Int) + 1)))) (he : step (n : Int) = (some true).map Sum.inr) : runLoop step 0 = some true :=
 runLoop_to (step:=step) (fun i=>(i : Int)) n (x:=some true) (fun i hi=>by rw [h i hi,wi_succ hi hn]) he
theorem rout_self (o : Tapi_Output) : Lref09_SameOut o o = some true:=by
 unfold Lref09_SameOut Lref01_Same;simp
/-! validity -/
end Go.Lc
end
section
/- Law 36: what a transaction that is put into a pool pays. -/
namespace Go.Lc
open Go.RowKit
open Go.Av
set_option linter.unusedVariables false
set_option linter.unusedSimpArgs false
set_option maxRecDepth 100000

theorem items_clone {l : List (List Int)} (h : l.length≤1000000) (hb : ∀ s∈l,s.length≤1000000) : Lreplace_cloneItems l = some l:=by
 unfold Lreplace_cloneItems Lslices_Clone_of__byte_byte;rw [chk_bind (by omega),bind_some'];refine runLoop_to (step:=Lreplace_cloneItems_s1 l) (fun i=>((i : Int),l)) l.length (x:=some l) (fun i hi=>?_) ?_
 ·simp only [Lreplace_cloneItems_s1]
  have:=hb _ (List.getElem_mem hi);rw [if_pos (by omega),inA_bind hi,get_bind hi,Lbytes_Clone,chk_bind (by omega),bind_some',set_same hi rfl,wi_succ hi (by omega)]
 ·simp only [Lreplace_cloneItems_s1]
  rw [if_neg (by omega)];rfl
theorem tx_clone {t : Tapi_Tx} (h : limS t) : Lreplace_cloneTx t = some t:=by
 obtain ⟨h1,h2,h3,h4⟩:=h
 have hf : Lreplace_cloneTx_k1 t.2.2.1 t t.2.1 = some t:=by
  unfold Lreplace_cloneTx_k1;refine runLoop_to (step:=Lreplace_cloneTx_s2 t.2.2.1 t t.2.1) (fun i=>((i : Int),t.2.2.1)) t.2.2.1.length (x:=some t) (fun i hi=>?_) ?_
  ·simp only [Lreplace_cloneTx_s2]
   have:=(h3 _ (List.getElem_mem hi)).2;rw [if_pos (by omega),inA_bind hi,get_bind hi,Lbytes_Clone,chk_bind (by omega),bind_some',set_same hi rfl,wi_succ hi (by omega)]
  ·simp only [Lreplace_cloneTx_s2]
   rw [if_neg (by omega)];rfl
 unfold Lreplace_cloneTx Lslices_Clone_of__api_Input_api_Input Lslices_Clone_of__api_Output_api_Output;rw [chk_bind (by omega),bind_some',chk_bind (by omega),bind_some'];refine runLoop_to (step:=Lreplace_cloneTx_s1 t.2.1 t.2.2.1 t) (fun i=>((i : Int),t.2.1)) t.2.1.length (x:=some t) (fun i hi=>?_) ?_
 ·simp only [Lreplace_cloneTx_s1]
  have h5:=h4 _ (List.getElem_mem hi);rw [if_pos (by omega),inA_bind hi,get_bind hi,items_clone (by omega) (fun s hs=>by have:=h5.2 s hs; omega),bind_some',set_same hi rfl,wi_succ hi (by omega)]
 ·simp only [Lreplace_cloneTx_s1]
  rw [if_neg (by omega),hf]
theorem check_lim {t : Tapi_Tx} (h : checkS t = 0) : fitsS t = true∧limS t:=by
 classical
 unfold checkS at h;by_cases hf : fitsS t = true
 ·exact ⟨hf,fits_lim hf⟩
 ·rw [if_pos hf] at h
  omega
theorem cf_i1 {a1 : Arr 32} {l : List Tapi_Entry} (b : Tapi_Entry→Bool) (hl : l.length≤1000000000) (hb : ∀ x∈l,Lreplace_Insert_1__r x a1 = some (b x)) : Lslices_ContainsFunc_of__api_Entry_api_Entry__replace_Insert_1 l a1 = some (l.any b):=by
 unfold Lslices_ContainsFunc_of__api_Entry_api_Entry__replace_Insert_1 Lslices_IndexFunc_of__api_Entry_api_Entry__replace_Insert_1;refine find_loop l b (by omega) (fun i hi=>?_) ?_
 ·simp only [Lslices_IndexFunc_of__api_Entry_api_Entry__replace_Insert_1_s1]
  rw [if_pos (by omega),idx_bind hi,hb _ (List.getElem_mem hi),bind_some']
 ·simp only [Lslices_IndexFunc_of__api_Entry_api_Entry__replace_Insert_1_s1]
  rw [if_neg (by omega)];rfl
theorem filter_take {α : Type} {l : List α} {i : Nat} (h : i < l.length) (c : α→Bool) : (l.take (i + 1)).filter c = (l.take i).filter c++if c l[i] = true then [l[i]] else []:=by
 rw [List.take_succ_eq_append_getElem h,List.filter_append]
 congr 1
 by_cases hc : c l[i] = true <;> simp [hc]
end Go.Lc
end
section
/- Law 36: sound pools. -/
namespace Go.Lc
open Go.RowKit
open Go.Av
set_option linter.unusedVariables false
set_option linter.unusedSimpArgs false
set_option maxRecDepth 100000

theorem mget_put {K : Type} [DecidableEq K] (k a : K) : ∀ m : List (K×Bool),(mget k (mput a true m)).getD false = (decide (k = a) || (mget k m).getD false)
 | []=>by
  simp only [mput,mget];by_cases h : k = a <;> simp [h]
 | (b,v) :: m=>by
  have ih:=mget_put k a m;by_cases h : a = b
  ·subst h
   by_cases h2 : k = a <;> simp [mput,mget,h2]
  ·simp only [mput,if_neg h,mget]
   by_cases h2 : k = b
   ·subst h2
    simp [Ne.symm h]
   ·simp only [if_neg h2,ih]
/-- a set of keys as a map -/
def mpL {K : Type} [DecidableEq K] (l : List K) : List (K×Bool):=l.foldl (fun m k=>mput k true m) []
theorem mpL_app {K : Type} [DecidableEq K] (l : List K) (k : K) : mpL (l++[k]) = mput k true (mpL l):=by simp [mpL,List.foldl_append]
theorem mpL_fold {K : Type} [DecidableEq K] (k : K) : ∀ (l : List K) (m : List (K×Bool)),(mget k (l.foldl (fun m k=>mput k true m) m)).getD false = (decide (k∈l) || (mget k m).getD false)
 | [],m=>by simp
 | a :: l,m=>by
  rw [List.foldl_cons,mpL_fold k l,mget_put];by_cases h : k = a <;> by_cases h2 : k∈l <;> simp [h,h2]
theorem mpL_get {K : Type} [DecidableEq K] (k : K) (l : List K) : (mget k (mpL l)).getD false = decide (k∈l):=by
 unfold mpL;rw [mpL_fold];simp [mget]
theorem nodup_app {α : Type} (A : List α) : ∀ B : List α,(A++B).Nodup↔A.Nodup∧∀ j (h : j < B.length),B[j] ∉ A++B.take j:=by
 intro B;induction B generalizing A with
 | nil=>simp
 | cons b B ih =>
  have h1 : A++b :: B = (A++[b])++B:=by simp
  rw [h1,ih]
  have h2 : (A++[b]).Nodup↔A.Nodup∧b ∉ A:=by
   rw [List.nodup_append];simp only [List.nodup_cons,List.not_mem_nil,not_false_eq_true,List.nodup_nil,and_self,true_and,List.mem_singleton,ne_eq,forall_eq];constructor
   ·rintro ⟨h,h'⟩
    exact ⟨h,fun hb=>h' b hb rfl⟩
   ·rintro ⟨h,h'⟩
    exact ⟨h,fun a ha e=>h' (e ▸ ha)⟩
  rw [h2];constructor
  ·rintro ⟨⟨h,h'⟩,h3⟩
   refine ⟨h,fun j hj=>?_⟩;cases j with
   | zero=>simpa using h'
   | succ j =>
    have:=h3 j (by simpa using hj);simpa using this
  ·rintro ⟨h,h'⟩
   refine ⟨⟨h,by have:=h' 0 (by simp); simpa using this⟩,fun j hj=>?_⟩;have:=h' (j + 1) (by simpa using hj);simpa using this
def okE (e : Tapi_Entry) : Prop:=checkS e.1 = 0∧cbS e.1 = false∧monB e.2 = true
def ptsL (l : List Tapi_Entry) : List Tapi_OutPoint:=l.flatMap fun e=>ptsS e.1
def soundS (l : List Tapi_Entry) : Prop:=(∀ e∈l,okE e)∧(ptsL l).Nodup
def badE (l : List Tapi_Entry) (i : Nat) : Prop:=∃ h : i < l.length,¬ okE l[i]∨∃ j,∃ h' : j < (ptsS (l[i]).1).length,(ptsS (l[i]).1)[j]∈ptsL (l.take i)++(ptsS (l[i]).1).take j
theorem ptsL_take {l : List Tapi_Entry} {i : Nat} (h : i < l.length) : ptsL (l.take (i + 1)) = ptsL (l.take i)++ptsS (l[i]).1:=flatMap_take _ h
theorem bad_sound (l : List Tapi_Entry) : (¬ ∃ i,i < l.length∧badE l i)↔soundS l:=by
 have key : ∀ n,n≤l.length→((¬ ∃ i,i < n∧badE l i)↔(∀ e∈l.take n,okE e)∧(ptsL (l.take n)).Nodup):=by
  intro n;induction n with
  | zero=>intro _; simp [ptsL]
  | succ n ih =>
   intro hn;have hn' : n < l.length:=by omega
   have ih:=ih (by omega)
   have e1 : (¬ ∃ i,i < n + 1∧badE l i)↔(¬ ∃ i,i < n∧badE l i)∧¬ badE l n:=by
    constructor
    ·intro h
     exact ⟨fun ⟨i,hi,hb⟩=>h ⟨i,by omega,hb⟩,fun hb=>h ⟨n,by omega,hb⟩⟩
    ·rintro ⟨h1,h2⟩ ⟨i,hi,hb⟩
     rcases Nat.lt_or_ge i n with h | h
     ·exact h1 ⟨i,h,hb⟩
     ·obtain rfl : i = n:=by omega
      exact h2 hb
   rw [e1,ih,ptsL_take hn',nodup_app,List.take_succ_eq_append_getElem hn'];constructor
   ·rintro ⟨⟨h1,h2⟩,h3⟩
    have h4 : okE l[n]:=Classical.byContradiction fun h=>h3 ⟨hn',.inl h⟩
    refine ⟨fun e he=>?_,h2,fun j hj hm=>h3 ⟨hn',.inr ⟨j,hj,hm⟩⟩⟩;rcases List.mem_append.1 he with he | he
    ·exact h1 e he
    ·rw [List.mem_singleton.1 he]; exact h4
   ·rintro ⟨h1,h2,h3⟩
    refine ⟨⟨fun e he=>h1 e (List.mem_append_left _ he),h2⟩,?_⟩;rintro ⟨_,hb | ⟨j,hj,hm⟩⟩
    ·exact hb (h1 _ (List.mem_append_right _ (List.mem_singleton.2 rfl)))
    ·exact h3 j hj hm
 have:=key l.length (Nat.le_refl _);rw [List.take_length] at this;exact this
theorem sound_eq {l : List Tapi_Entry} (hl : l.length≤1000) (hi : ∀ e∈l,e.1.2.1.length≤1000) : Lreplace_sound l = (by classical exact some (decide (soundS l))):=by
 classical
 unfold Lreplace_sound;have m1 : ∀ f,Lreplace_money f = some (monB f):=fun _=>rfl
 have hx : ∀ i (h : i < l.length),okE l[i]→Lreplace_sound_s1 l ((i : Int),mpL (ptsL (l.take i))) = if badE l i then some (.inr false) else some (.inl (((i + 1 : Nat) : Int),mpL (ptsL (l.take (i + 1))))):=by
  rintro i h ⟨c1,c2,c3⟩
  have hin:=hi _ (List.getElem_mem h);simp only [Lreplace_sound_s1];rw [if_pos (by omega),idx_bind h,tx_check,bind_some',cb_eq,m1];simp only [c1,c2,c3,not_true,if_false,bind_some',Bool.false_eq_true,or_self,Bool.not_true];have hp:=pts_len (t:=(l[i]).1);rw [scan_pre (s:=(0,mpL (ptsL (l.take i)))) (step:=Lreplace_sound_s2 l[i] (i : Int)) (fun j=>((j : Int),mpL (ptsL (l.take i)++(ptsS (l[i]).1).take j))) (l[i]).1.2.1.length (fun j=>∃ h' : j < (ptsS (l[i]).1).length,(ptsS (l[i]).1)[j]∈ptsL (l.take i)++(ptsS (l[i]).1).take j) (some (.inr false)) (some (.inl (((i + 1 : Nat) : Int),mpL (ptsL (l.take (i + 1))))))]
  ·have : (∃ j,j < (l[i]).1.2.1.length∧∃ h' : j < (ptsS (l[i]).1).length,(ptsS (l[i]).1)[j]∈ptsL (l.take i)++(ptsS (l[i]).1).take j)↔badE l i:=by
    constructor
    ·rintro ⟨j,_,h',hm⟩
     exact ⟨h,.inr ⟨j,h',hm⟩⟩
    ·rintro ⟨_,hb | ⟨j,h',hm⟩⟩
     ·exact (hb ⟨c1,c2,c3⟩).elim
     ·exact ⟨j,by omega,h',hm⟩
   by_cases hb : badE l i
   ·rw [if_pos hb,if_pos (this.2 hb)]
   ·rw [if_neg hb,if_neg fun h=>hb (this.1 h)]
  ·intro j hj _ hb
   have hj' : j < (ptsS (l[i]).1).length:=by omega
   have hm : ¬ (ptsS (l[i]).1)[j]∈ptsL (l.take i)++(ptsS (l[i]).1).take j:=fun hm=>hb ⟨hj',hm⟩
   simp only [Lreplace_sound_s2];rw [if_pos (by omega),idx_bind hj,mpL_get,← pts_get hj hj',if_neg (by simpa using hm),wi_succ hj (by omega),List.take_succ_eq_append_getElem hj',← List.append_assoc,mpL_app]
  ·rintro j hj _ ⟨hj',hm⟩
   simp only [Lreplace_sound_s2];rw [if_pos (by omega),idx_bind hj,mpL_get,← pts_get hj hj',if_pos (by simpa using hm)];rfl
  ·intro _
   simp only [Lreplace_sound_s2];rw [if_neg (by omega)];unfold Lreplace_sound_k2;rw [wi_succ h (by omega),ptsL_take h,← pts_len,List.take_length]
  ·simp
 rw [scan_pre (s:=(0,[])) (step:=Lreplace_sound_s1 l) (fun i=>((i : Int),mpL (ptsL (l.take i)))) l.length (badE l) (some false) (some true)]
 ·by_cases hs : soundS l
  ·rw [if_neg ((bad_sound l).2 hs),decide_eq_true hs]
  ·rw [if_pos (Classical.byContradiction fun h=>hs ((bad_sound l).1 h)),decide_eq_false hs]
 ·intro i h _ hb
  rw [hx i h (Classical.byContradiction fun hn=>hb ⟨h,.inl hn⟩),if_neg hb]
 ·intro i h _ hb
  by_cases ho : okE l[i]
  ·rw [hx i h ho,if_pos hb]
   rfl
  ·have hin:=hi _ (List.getElem_mem h)
   simp only [Lreplace_sound_s1];rw [if_pos (by omega),idx_bind h,tx_check,bind_some',cb_eq,m1];by_cases c1 : checkS (l[i]).1 = 0
   ·cases c2 : cbS (l[i]).1
    ·cases c3 : monB (l[i]).2
     ·simp [c1]
     ·exact (ho ⟨c1,c2,c3⟩).elim
    ·simp [c1]
   ·simp [c1]
 ·intro _
  simp only [Lreplace_sound_s1];rw [if_neg (by omega)];rfl
 ·simp [ptsL,mpL]
end Go.Lc
end
section
/- Law 36: pools and heirs are small. -/
namespace Go.Lc
open Go.RowKit
open Go.Av
set_option linter.unusedVariables false

def smT (t : Tapi_Tx) : Prop:=t.2.1.length≤3∧limS t
def smI (x : Tapi_Input) : Prop:=x.2.2.length≤32∧∀ s∈x.2.2,s.length≤520
def smO (o : Tapi_Output) : Prop:=0≤o.1∧o.2.length≤520
theorem mem_app1 {α : Type} {P : α→Prop} {l : List α} {a : α} (h : ∀ x∈l,P x) (ha : P a) : ∀ x∈l++[a],P x:=by
 intro x hx;rcases List.mem_append.1 hx with hx | hx
 ·exact h x hx
 ·rw [List.mem_singleton.1 hx]; exact ha
theorem tx_lim {d : Tlightclientmill_Deck} (h : DeckOk d) : Tot (Lmill_Tx d) fun r=>smT r.1∧DeckOk r.2:=by
 unfold Lmill_Tx;refine (next_tot h (by omega) (by omega)).bind fun y1 h1=>(next_tot h1.2 (by omega) (by omega)).bind fun y2 h2=>(range_tot h2.2 (by omega) (by omega) (by omega)).bind fun y3 h3=>?_
 refine tot_loop (I:=fun n s=>s.1 = (n : Int)∧DeckOk s.2.1∧s.2.2.length + n≤3∧∀ x∈s.2.2,smI x) (n:=y3.1.toNat) ?_ ⟨by dsimp only; omega,h3.2,by simp; omega,by simp⟩;rintro n ⟨k,d1,ins⟩ ⟨hk,hd,hl,hin⟩
 dsimp only at hk hd hl hin;simp only [Lmill_Tx_s1];refine tot_ite (fun hc=>?_) (fun hc=>?_)
 ·refine (hash_tot hd).bind fun y4 h4=>(next_tot h4 (by omega) (by omega)).bind fun y5 h5=>(next_tot h5.2 (by omega) (by omega)).bind fun y6 h6=>?_
  refine tot_inA (by omega) (by omega) fun j _ hj=>tot_get hj fun x _=>(next_tot h6.2 (by omega) (by omega)).bind fun y7 h7=>?_
  have hk3 : ∀ (d' : Tlightclientmill_Deck) (w : List (List Int)),DeckOk d'→(w.length≤32∧∀ s∈w,s.length≤520)→Tot (Lmill_Tx_k3 ins k y4 y5 x d' w) (Nx (fun n s=>s.1 = (n : Int)∧DeckOk s.2.1∧s.2.2.length + n≤3∧∀ x∈s.2.2,smI x) (fun r : Tapi_Tx×Tlightclientmill_Deck=>smT r.1∧DeckOk r.2) n):=by
   intro d' w hd' hw;unfold Lmill_Tx_k3;refine tot_chk (by omega) (tot_some ⟨n - 1,by omega,?_,hd',?_,mem_app1 hin hw⟩)
   ·dsimp only
    rw [wi _ (by omega)];omega
   ·simp only [List.length_append,List.length_cons,List.length_nil]
    omega
  exact tot_ite (fun _=>(next_tot h7.2 (by omega) (by omega)).bind fun y8 h8=>hk3 _ _ h8.2 (by simp)) (fun _=>hk3 _ _ h7.2 (by simp))
 ·refine Tot.out ?_
  unfold Lmill_Tx_k1;refine (range_tot hd (by omega) (by omega) (by omega)).bind fun y9 h9=>?_
  refine tot_loop (I:=fun n s=>s.1 = (n : Int)∧DeckOk s.2.1∧s.2.2.length + n≤3∧∀ x∈s.2.2,smO x) (n:=y9.1.toNat) ?_ ⟨by dsimp only; omega,h9.2,by simp; omega,by simp⟩;rintro m ⟨k2,d2,outs⟩ ⟨hk2,hd2,hl2,hout⟩
  dsimp only at hk2 hd2 hl2 hout;simp only [Lmill_Tx_s2];refine tot_ite (fun hc=>?_) (fun hc=>?_)
  ·refine (next_tot hd2 (by omega) (by omega)).bind fun y4 h4=>(next_tot h4.2 (by omega) (by omega)).bind fun y5 h5=>?_
   rw [script_eq,bind_some'];refine tot_chk (by omega) (tot_some ⟨m - 1,by omega,?_,h5.2,?_,mem_app1 hout ⟨h4.1.1,by simp⟩⟩)
   ·dsimp only
    rw [wi _ (by omega)];omega
   ·simp only [List.length_append,List.length_cons,List.length_nil]
    omega
  ·refine Tot.out ?_
   unfold Lmill_Tx_k2;exact tot_some ⟨⟨by dsimp only; omega,by dsimp only; omega,by dsimp only; omega,hout,hin⟩,hd2⟩
def I1L (n : Nat) (s : PoolSt) : Prop:=s.1 = (n : Int)∧DeckOk s.2.1∧s.2.2.length + n≤5∧∀ e∈s.2.2,smT e.1
def Q1L (r : PoolR) : Prop:=r.1.length≤5∧(∀ e∈r.1,smT e.1)∧DeckOk r.2
section
variable {y : Tapi_Tx×Tlightclientmill_Deck} {pool : List Tapi_Entry} {k : Int} {n : Nat}
theorem pool_k2L (hy : smT y.1∧DeckOk y.2) (hs : I1L n (k,y.2,pool)) (hk : 0 < k) (b : Bool) : Tot (Lmill_Pool_k2 b y pool k) (Nx I1L Q1L n):=by
 obtain ⟨h1,h2,h3,h4⟩:=hs;dsimp only at h1 h2 h3 h4;unfold Lmill_Pool_k2 Lmill_Pool_k3;refine tot_ite (fun _=>?_) (fun _=>?_)
 ·refine (next_tot hy.2 (by omega) (by omega)).bind fun z hz=>?_
  refine tot_chk (by omega) (tot_some ⟨n - 1,by omega,?_,hz.2,?_,?_⟩)
  ·dsimp only
   rw [wi _ (by omega)];omega
  ·simp only [List.length_append,List.length_cons,List.length_nil]
   omega
  ·intro e he
   rcases List.mem_append.1 he with he | he
   ·exact h4 e he
   ·simp only [List.mem_singleton] at he
    subst he;exact hy.1
 ·refine tot_some ⟨n - 1,by omega,?_,hy.2,?_,h4⟩
  ·dsimp only
   rw [wi _ (by omega)];omega
  ·dsimp only
   omega
theorem pool_s2L (hy : smT y.1∧DeckOk y.2) (hs : I1L n (k,y.2,pool)) (hk : 0 < k) : Tot (runLoop (Lmill_Pool_s2 y pool k) (false,0)) (Nx I1L Q1L n):=by
 have hs' := hs;have hy3:=hy.1.1;obtain ⟨h1,h2,h3,h4⟩:=hs;dsimp only at h1 h2 h3 h4;refine tot_loop (I:=I2 y.1.2.1.length) (n:=y.1.2.1.length) ?_ ⟨by simp,by simp⟩;rintro m ⟨b,i⟩ ⟨hi0,him⟩
 dsimp only at hi0 him;simp only [Lmill_Pool_s2];refine tot_ite (fun hc=>?_) (fun hc=>?_)
 ·refine tot_chk ⟨by omega,hi0⟩ ?_
  refine tot_loop (I:=I2 i.toNat) (n:=i.toNat) ?_ ⟨by simp,by simp⟩;rintro m3 ⟨b3,i3⟩ ⟨hi3,him3⟩
  dsimp only at hi3 him3;simp only [Lmill_Pool_s3];refine tot_ite (fun hc3=>?_) (fun hc3=>?_)
  ·refine tot_some_or (fun z=>tot_some ⟨m3 - 1,by omega,?_,?_⟩) ?_
   ·dsimp only
    rw [wi _ (by omega)];omega
   ·dsimp only
    rw [wi _ (by omega)];omega
   ·obtain ⟨j,rfl⟩:=Int.eq_ofNat_of_zero_le hi0
    obtain ⟨j3,rfl⟩:=Int.eq_ofNat_of_zero_le hi3;rw [inA_bind (by omega),get_bind (by omega),inA_bind (by omega),get_bind (by omega)];exact ⟨_,rfl⟩
  ·refine Tot.out ?_
   unfold Lmill_Pool_k4;refine tot_loop (I:=I2 pool.length) (n:=pool.length) ?_ ⟨by simp,by simp⟩;rintro m4 ⟨b4,i4⟩ ⟨hi4,him4⟩
   dsimp only at hi4 him4;simp only [Lmill_Pool_s4];refine tot_ite (fun hc4=>?_) (fun hc4=>?_)
   ·refine tot_inA hi4 (by omega) fun j hj hjl=>tot_get hjl fun e he=>?_
    have hel : e.1.2.1.length≤3:=(h4 e (List.mem_of_getElem? he)).1;refine tot_loop (I:=I2 e.1.2.1.length) (n:=e.1.2.1.length) ?_ ⟨by simp,by simp⟩;rintro m5 ⟨b5,i5⟩ ⟨hi5,him5⟩
    dsimp only at hi5 him5;simp only [Lmill_Pool_s5];refine tot_ite (fun hc5=>?_) (fun hc5=>?_)
    ·refine tot_idx hi5 hc5 fun x _=>?_
     refine tot_some_or (fun z=>tot_some ⟨m5 - 1,by omega,?_,?_⟩) ?_
     ·dsimp only
      rw [wi _ (by omega)];omega
     ·dsimp only
      rw [wi _ (by omega)];omega
     ·obtain ⟨j,rfl⟩:=Int.eq_ofNat_of_zero_le hi0
      rw [inA_bind (by omega),get_bind (by omega)];exact ⟨_,rfl⟩
    ·refine Tot.out ?_
     unfold Lmill_Pool_k6;refine tot_some ⟨m4 - 1,by omega,?_,?_⟩
     ·dsimp only
      rw [wi _ (by omega)];omega
     ·dsimp only
      rw [wi _ (by omega)];omega
   ·refine Tot.out ?_
    unfold Lmill_Pool_k5;refine tot_some ⟨m - 1,by omega,?_,?_⟩
    ·dsimp only
     rw [wi _ (by omega)];omega
    ·dsimp only
     rw [wi _ (by omega)];omega
 ·exact Tot.out (pool_k2L hy hs' hk b)
end
theorem pool_totL {d : Tlightclientmill_Deck} (h : DeckOk d) {m : Int} (hm : 0≤m∧m≤5) : Tot (Lmill_Pool d m) Q1L:=by
 unfold Lmill_Pool;rw [wi _ (by omega)];refine (next_tot h (by omega) (by omega)).bind fun y1 h1=>?_
 refine tot_loop (I:=I1L) (n:=y1.1.toNat) ?_ ⟨by dsimp only; omega,h1.2,by simp; omega,by simp⟩;rintro n ⟨k,d1,pool⟩ hs
 have hs' := hs;obtain ⟨g1,g2,g3,g4⟩:=hs;dsimp only at g1 g2 g3 g4;simp only [Lmill_Pool_s1];refine tot_ite (fun hc=>?_) (fun hc=>?_)
 ·refine (tx_lim g2).bind fun y hy=>?_
  exact pool_s2L ⟨hy.1,hy.2⟩ ⟨g1,hy.2,g3,g4⟩ hc
 ·refine Tot.out ?_
  unfold Lmill_Pool_k1;exact tot_some ⟨by dsimp only; omega,g4,g2⟩
end Go.Lc
end
section
/- Law 36: an inserted transaction pays more than what it replaces. -/
namespace Go.Lc
open Go.RowKit
open Go.Av
set_option linter.unusedVariables false
set_option linter.unusedSimpArgs false
set_option maxRecDepth 100000

theorem stx_same {t : Tapi_Tx} (h : limS t) : Lref09_SameTx t t = some true:=by
 obtain ⟨h1,h2,_,h4⟩:=h
 have hk : Lref09_SameTx_k1 t t = some true:=by
  unfold Lref09_SameTx_k1;refine loop_all t.2.2.1.length (by omega) (fun i hi=>?_) ?_
  ·simp only [Lref09_SameTx_s2]
   rw [if_pos (by omega),idx_bind hi,idx_bind hi,rout_self,bind_some',if_neg (by simp)]
  ·simp only [Lref09_SameTx_s2]
   rw [if_neg (by omega)];rfl
 unfold Lref09_SameTx;rw [if_neg (by simp)];refine loop_all t.2.1.length (by omega) (fun i hi=>?_) ?_
 ·simp only [Lref09_SameTx_s1]
  have h5:=(h4 _ (List.getElem_mem hi)).1;rw [if_pos (by omega),idx_bind hi,idx_bind hi,if_neg (by simp)];refine runLoop_to (step:=Lref09_SameTx_s3 (t.2.1[i]) (t.2.1[i]) (i : Int)) (fun j=>(j : Int)) (t.2.1[i]).2.2.length (x:=some (.inl (IntKind.i64.wrap ((i : Int) + 1)))) (fun j hj=>?_) ?_
  ·simp only [Lref09_SameTx_s3]
   rw [if_pos (by omega),idx_bind hj,idx_bind hj];unfold Lref01_Same;rw [bind_some',if_neg (by simp),wi_succ hj (by omega)]
  ·simp only [Lref09_SameTx_s3]
   rw [if_neg (by omega)];rfl
 ·simp only [Lref09_SameTx_s1]
  rw [if_neg (by omega),hk]
end Go.Lc
end
section
/- Law 36: pools into which a transaction is put: the program's and the reference's are the same. -/
namespace Go.Lc
open Go.RowKit
open Go.Av
set_option linter.unusedVariables false
set_option linter.unusedSimpArgs false
set_option maxRecDepth 100000

theorem con_pts (s t : Tapi_Tx) : conS s t = true↔∃ p,p∈ptsS s∧p∈ptsS t:=by
 unfold conS ptsS samePt;simp only [List.any_eq_true,Bool.and_eq_true,decide_eq_true_eq,List.mem_map];constructor
 ·rintro ⟨x,hx,y,hy,h1,h2⟩
  exact ⟨x.1,⟨x,hx,rfl⟩,y,hy,(Prod.ext h1 h2).symm⟩
 ·rintro ⟨p,⟨x,hx,rfl⟩,y,hy,h⟩
  exact ⟨x,hx,y,hy,by rw [h],by rw [h]⟩
theorem check_dup {t : Tapi_Tx} (h : checkS t = 0) : ¬ dupS (ptsS t):=by
 classical
 intro hd;unfold checkS at h;split at h
 ·omega
 ·split at h
  ·omega
  ·split at h
   ·omega
   ·omega
def badR (l : List Tapi_Entry) (i : Nat) : Prop:=∃ h : i < l.length,¬ okE l[i]∨∃ j,∃ h' : j < i,conS (l[j]'(by omega)).1 (l[i]).1 = true
theorem badR_iff (l : List Tapi_Entry) (i : Nat) : badR l i↔badE l i:=by
 constructor
 ·rintro ⟨h,hb | ⟨j,hj,hc⟩⟩
  ·exact ⟨h,.inl hb⟩
  ·obtain ⟨p,h1,h2⟩:=(con_pts _ _).1 hc
   obtain ⟨k,hk,e⟩:=List.getElem_of_mem h2;refine ⟨h,.inr ⟨k,hk,List.mem_append_left _ ?_⟩⟩;rw [e];exact List.mem_flatMap.2 ⟨l[j],List.mem_take_iff_getElem.2 ⟨j,by omega,rfl⟩,h1⟩
 ·rintro ⟨h,hb | ⟨k,hk,hm⟩⟩
  ·exact ⟨h,.inl hb⟩
  ·by_cases ho : okE l[i]
   ·rcases List.mem_append.1 hm with hm | hm
    ·obtain ⟨e,he,hp⟩:=List.mem_flatMap.1 hm
     obtain ⟨j,hj,rfl⟩:=List.mem_take_iff_getElem.1 he;exact ⟨h,.inr ⟨j,by omega,(con_pts _ _).2 ⟨_,hp,List.getElem_mem hk⟩⟩⟩
    ·exact (check_dup ho.1 ⟨k,hk,hk,hm⟩).elim
   ·exact ⟨h,.inl ho⟩
theorem rsound_eq {l : List Tapi_Entry} (hl : l.length≤1000) (hi : ∀ e∈l,e.1.2.1.length≤1000) : Lref36_sound l = (by classical exact some (decide (soundS l))):=by
 classical
 unfold Lref36_sound;have m1 : ∀ f,Lref36_money f = some (monB f):=fun _=>rfl
 have hin : ∀ i (h : i < l.length),okE l[i]→Lref36_sound_s1 l (i : Int) = if ∃ j,j < i∧∃ h' : j < i,conS (l[j]'(by omega)).1 (l[i]).1 = true then some (.inr false) else some (.inl ((i + 1 : Nat) : Int)):=by
  rintro i h ⟨c1,c2,c3⟩
  simp only [Lref36_sound_s1];rw [if_pos (by omega),idx_bind h,rtx_check,bind_some',rcb_eq,m1];simp only [c1,c2,c3,not_true,if_false,bind_some',Bool.false_eq_true,or_self,Bool.not_true];refine scan_pre (s:=0) (step:=Lref36_sound_s2 (i : Int) l) (fun j=>(j : Int)) i (fun j=>∃ h' : j < i,conS (l[j]'(by omega)).1 (l[i]).1 = true) (some (.inr false)) (some (.inl ((i + 1 : Nat) : Int))) ?_ ?_ ?_ rfl
  ·intro j hj _ hb
   have hj2 : j < l.length:=by omega
   have hc : ¬ conS (l[j]).1 (l[i]).1 = true:=fun h=>hb ⟨hj,h⟩
   simp only [Lref36_sound_s2];rw [if_pos (by omega),idx_bind hj2,idx_bind h,rcon_eq (by have:=hi _ (List.getElem_mem hj2); omega) (by have:=hi _ (List.getElem_mem h); omega),bind_some',if_neg hc,wi_succ hj (by omega)]
  ·rintro j hj _ ⟨_,hc⟩
   have hj2 : j < l.length:=by omega
   simp only [Lref36_sound_s2];rw [if_pos (by omega),idx_bind hj2,idx_bind h,rcon_eq (by have:=hi _ (List.getElem_mem hj2); omega) (by have:=hi _ (List.getElem_mem h); omega),bind_some',if_pos hc];rfl
  ·intro _
   simp only [Lref36_sound_s2];rw [if_neg (by omega)];unfold Lref36_sound_k2;rw [wi_succ h (by omega)]
 rw [scan_pre (s:=0) (step:=Lref36_sound_s1 l) (fun i=>(i : Int)) l.length (badR l) (some false) (some true)]
 ·have hiff : (∃ i,i < l.length∧badR l i)↔¬ soundS l:=by
   rw [← bad_sound l,Classical.not_not];exact ⟨fun ⟨i,h,hb⟩=>⟨i,h,(badR_iff l i).1 hb⟩,fun ⟨i,h,hb⟩=>⟨i,h,(badR_iff l i).2 hb⟩⟩
  by_cases hs : soundS l
  ·rw [if_neg (fun h=>(hiff.1 h) hs),decide_eq_true hs]
  ·rw [if_pos (hiff.2 hs),decide_eq_false hs]
 ·intro i h _ hb
  rw [hin i h (Classical.byContradiction fun hn=>hb ⟨h,.inl hn⟩),if_neg];rintro ⟨j,hj,hj2,hc⟩
  exact hb ⟨h,.inr ⟨j,hj,hc⟩⟩
 ·rintro i h _ ⟨_,hb⟩
  by_cases ho : okE l[i]
  ·rcases hb with hb | ⟨j,hj,hc⟩
   ·exact (hb ho).elim
   ·rw [hin i h ho,if_pos ⟨j,hj,hj,hc⟩]
    rfl
  ·simp only [Lref36_sound_s1]
   rw [if_pos (by omega),idx_bind h,rtx_check,bind_some',rcb_eq,m1];by_cases c1 : checkS (l[i]).1 = 0
   ·cases c2 : cbS (l[i]).1
    ·cases c3 : monB (l[i]).2
     ·simp [c1]
     ·exact (ho ⟨c1,c2,c3⟩).elim
    ·simp [c1]
   ·simp [c1]
 ·intro _
  simp only [Lref36_sound_s1];rw [if_neg (by omega)];rfl
 ·rfl

/-! the worst one -/
noncomputable def rtE (e : Tapi_Entry) : Int:=rateS e.2 (weightS e.1)
noncomputable def rtL (l : List Tapi_Entry) (i : Nat) : Int:=(l[i]?).elim 0 rtE
noncomputable def wf (l : List Tapi_Entry) : Nat→Nat
 | 0=>0
 | i + 1=>if rtL l i≤rtL l (wf l i) then i else wf l i
theorem rtL_get {l : List Tapi_Entry} {i : Nat} (h : i < l.length) : rtL l i = rtE l[i]:=by simp [rtL,h]
theorem wf_lt {l : List Tapi_Entry} (h : 0 < l.length) : ∀ i,i≤l.length→wf l i < l.length:=by
 intro i;induction i with
 | zero=>intro _; exact h
 | succ i ih =>
  intro hi;unfold wf;split
  ·omega
  ·exact ih (by omega)
theorem prate_eq (e : Tapi_Entry) : Lreplace_rateOf e = some (rtE e):=by
 unfold Lreplace_rateOf;rw [tx_weight,bind_some',prate];rfl
theorem rrate_eq (e : Tapi_Entry) : Lref36_rate e = some (rtE e):=by
 unfold Lref36_rate;rw [rtx_weight,bind_some',rrate];rfl
theorem worst_eq {l : List Tapi_Entry} (h : 0 < l.length) (hl : l.length≤1000) : Lreplace_worst l = some ((wf l l.length : Nat) : Int):=by
 unfold Lreplace_worst;rw [List.getElem?_eq_getElem h,bind_some',prate_eq,bind_some'];refine (congrArg (runLoop _) ?_).trans (runLoop_to (step:=Lreplace_worst_s1 l) (fun i=>(((wf l i : Nat) : Int),rtL l (wf l i),(i : Int))) l.length (x:=some ((wf l l.length : Nat) : Int)) (fun i hi=>?_) ?_)
 ·show ((0 : Int),rtE l[0],(0 : Int)) = (((0 : Nat) : Int),rtL l 0,((0 : Nat) : Int))
  rw [rtL_get h];rfl
 ·simp only [Lreplace_worst_s1]
  rw [if_pos (by omega),idx_bind hi,prate_eq,bind_some',← rtL_get hi];unfold Lreplace_worst_k2;by_cases hc : rtL l i≤rtL l (wf l i)
  ·rw [if_pos hc,wi_succ hi (by omega),wf,if_pos hc]
  ·rw [if_neg hc,wi_succ hi (by omega),wf,if_neg hc]
 ·simp only [Lreplace_worst_s1]
  rw [if_neg (by omega)];rfl
theorem rworst_eq {l : List Tapi_Entry} {g : List (Arr 32)} (h : 0 < l.length) (hl : l.length≤1000) : runLoop (Lref36_Insert_s4 l g) (0,0) = Lref36_Insert_k4 l ((wf l l.length : Nat) : Int) g:=by
 refine runLoop_to (step:=Lref36_Insert_s4 l g) (fun i=>(((wf l i : Nat) : Int),(i : Int))) l.length (fun i hi=>?_) ?_
 ·simp only [Lref36_Insert_s4]
  have hw:=wf_lt h i (by omega);rw [if_pos (by omega),inA_bind hi,get_bind hi,rrate_eq,bind_some',inA_bind hw,get_bind hw,rrate_eq,bind_some',← rtL_get hi,← rtL_get hw];unfold Lref36_Insert_k5;by_cases hc : rtL l i≤rtL l (wf l i)
  ·rw [if_pos hc,wi_succ hi (by omega),wf,if_pos hc]
  ·rw [if_neg hc,wi_succ hi (by omega),wf,if_neg hc]
 ·simp only [Lref36_Insert_s4]
  rw [if_neg (by omega)]
theorem cut_both {m : Int} : ∀ (n : Nat) (l : List Tapi_Entry) (g : List (Arr 32)),l.length = n→n≤1000→g.length + n≤100000→∃ r,runLoop (Lreplace_Insert_s3 m) (l,g) = some r∧runLoop (Lref36_Insert_s3 m) (l,g) = some r∧(∀ e∈r.1,e∈l)∧r.1.length≤1000∧r.2.1.length≤100000:=by
 intro n;induction n with
 | zero =>
  intro l g hl _ hg;refine ⟨(l,g,0),?_,?_,fun e he=>he,by dsimp only; omega,by dsimp only; omega⟩
  ·refine runLoop_exit ?_
   simp only [Lreplace_Insert_s3];rw [if_neg (by omega)];rfl
  ·refine runLoop_exit ?_
   simp only [Lref36_Insert_s3];rw [if_neg (by omega)];rfl
 | succ n ih =>
  intro l g hl hn hg;by_cases hm : m < (l.length : Int)
  ·have h0 : 0 < l.length:=by omega
   have hw:=wf_lt h0 l.length (Nat.le_refl _);obtain ⟨k,hk⟩ : ∃ k,wf l l.length = k:=⟨_,rfl⟩
   rw [hk] at hw;have hk1 : IntKind.i64.wrap ((k : Int) + 1) = ((k + 1 : Nat) : Int):=wi_succ hw (by omega);have hll : (l.take k++l.drop (k + 1)).length = n:=by simp; omega
   obtain ⟨r,r1,r2,r3,r4,r5⟩:=ih (l.take k++l.drop (k + 1)) (g++[idS (l[k]).1]) hll (by omega) (by simp; omega);refine ⟨r,?_,?_,fun e he=>?_,r4,r5⟩
   ·rw [← r1]
    refine runLoop_step ?_;simp only [Lreplace_Insert_s3];rw [if_pos (by omega),worst_eq h0 (by omega),hk,bind_some',inA_bind hw,get_bind hw,id_eq,bind_some',chk_bind (by omega),hk1];unfold Lslices_Delete_of__api_Entry_api_Entry;rw [chk_bind (by omega),bind_some'];rfl
   ·rw [← r2]
    refine runLoop_step ?_;simp only [Lref36_Insert_s3];rw [if_pos (by omega),rworst_eq h0 (by omega),hk];unfold Lref36_Insert_k4;have hd : (l.drop (k + 1)).take (l.length - (k + 1)) = l.drop (k + 1):=List.take_of_length_le (by simp);rw [inA_bind hw,get_bind hw,rid_eq,bind_some',chk_bind (by omega),chk_bind (by omega),chk_bind (by simp; omega),hk1,chk_bind (by omega),chk_bind (by simp; omega)];simp only [Int.toNat_natCast,hd]
   ·have:=r3 e he
    rcases List.mem_append.1 this with h | h
    ·exact List.mem_of_mem_take h
    ·exact List.mem_of_mem_drop h
  ·refine ⟨(l,g,0),?_,?_,fun e he=>he,by dsimp only; omega,by dsimp only; omega⟩
   ·refine runLoop_exit ?_
    simp only [Lreplace_Insert_s3];rw [if_neg (by omega)];rfl
   ·refine runLoop_exit ?_
    simp only [Lref36_Insert_s3];rw [if_neg (by omega)];rfl
/-! the whole -/
theorem map_take {α β : Type} (f : α→β) {l : List α} {i : Nat} (h : i < l.length) : (l.take (i + 1)).map f = (l.take i).map f++[f l[i]]:=by
 rw [List.take_succ_eq_append_getElem h,List.map_append];rfl
theorem insert_both {l : List Tapi_Entry} {t : Tapi_Tx} {f m : Int} (hl : l.length≤100) (hi : ∀ e∈l,e.1.2.1.length≤1000) (ht : t.2.1.length≤1000) : ∃ r,Lreplace_Insert l t f m = some r∧Lref36_Insert l t f m = some r∧(∀ e∈r.1,limS e.1)∧r.1.length≤1000∧r.2.1.length≤100000∧(¬ soundS l→r = ([],[],6)):=by
 classical
 unfold Lreplace_Insert Lref36_Insert;rw [sound_eq (by omega) hi,rsound_eq (by omega) hi,bind_some',bind_some'];by_cases hs : soundS l
 ·have hn : ¬ ¬ decide (soundS l) = true:=by simp [hs]
  rw [if_neg hn,if_neg hn,id_eq,bind_some',cf_i1 (fun e=>decide (idS e.1 = idS t)) (by omega) (fun x hx=>by
   unfold Lreplace_Insert_1__r;rw [id_eq]
   rfl),bind_some']
  have hlim : ∀ e∈l,limS e.1:=fun e he=>(check_lim (hs.1 e he).1).2
  have hcl : ∀ e∈l,Lreplace_Conflict e.1 t = some (conS e.1 t):=fun e he=>con_eq (by have:=hi e he; omega) (by omega)
  have hrl : ∀ e∈l,Lref36_Conflict e.1 t = some (conS e.1 t):=fun e he=>rcon_eq (by have:=hi e he; omega) (by omega)
  have hrid : ∀ u,Lref09_ID u = some (idS u):=rid_eq
  have hflen : ∀ (c : Tapi_Entry→Bool) i,((l.take i).filter c).length≤100:=fun c i=>by
   have h1:=List.length_filter_le c (l.take i);have h2 : (l.take i).length≤l.length:=by simp; omega
   omega
  have hr1 : runLoop (Lref36_Insert_s1 l t f m) (0,[],[]) = if ∃ e∈l,idS e.1 = idS t then some ([],[],150) else Lref36_Insert_k1 (l.filter fun e=>conS e.1 t) t f (l.filter fun e=>!conS e.1 t) m:=by
   refine scan_dec (s:=(0,[],[])) (step:=Lref36_Insert_s1 l t f m) (fun i=>((i : Int),(l.take i).filter (fun e=>conS e.1 t),(l.take i).filter (fun e=>!conS e.1 t))) l (fun e=>idS e.1 = idS t) (some ([],[],150)) (Lref36_Insert_k1 (l.filter fun e=>conS e.1 t) t f (l.filter fun e=>!conS e.1 t) m) ?_ ?_ ?_ rfl
   ·intro i h hb
    simp only [Lref36_Insert_s1];have hc:=hrl _ (List.getElem_mem h);have l1:=hflen (fun e=>conS e.1 t) i;have l2:=hflen (fun e=>!conS e.1 t) i;rw [if_pos (by omega),idx_bind h,hrid,hrid,bind_some',bind_some',if_neg hb,hc,bind_some',filter_take h,filter_take h];unfold Lref36_Insert_k6;cases hcc : conS (l[i]).1 t
    ·rw [if_neg (by simp),chk_bind (by omega),wi_succ h (by omega),if_neg (by simp),if_pos (by simp),List.append_nil]
    ·rw [if_pos rfl,chk_bind (by omega),wi_succ h (by omega),if_pos (by simp),if_neg (by simp),List.append_nil]
   ·intro i h hb
    simp only [Lref36_Insert_s1];rw [if_pos (by omega),idx_bind h,hrid,hrid,bind_some',bind_some',if_pos hb];rfl
   ·simp only [Lref36_Insert_s1]
    rw [if_neg (by omega),List.take_length]
  by_cases hx : ∃ e∈l,idS e.1 = idS t
  ·have hany : (l.any fun e=>decide (idS e.1 = idS t)) = true:=by
    obtain ⟨e,he,h⟩:=hx;exact List.any_eq_true.2 ⟨e,he,by simpa using h⟩
   rw [hany,if_pos rfl];exact ⟨_,rfl,by rw [hr1,if_pos hx],by simp,by simp,by simp,fun h=>(h hs).elim⟩
  ·have hany : ¬ (l.any fun e=>decide (idS e.1 = idS t)) = true:=by
    intro h;obtain ⟨e,he,h⟩:=List.any_eq_true.1 h;exact hx ⟨e,he,by simpa using h⟩
   rw [if_neg hany,hr1,if_neg hx]
   have hp : runLoop (Lreplace_Insert_s1 l t f m) (0,[],[]) = Lreplace_Insert_k1 (l.filter fun e=>conS e.1 t) t f (l.filter fun e=>!conS e.1 t) m:=by
    refine runLoop_to (step:=Lreplace_Insert_s1 l t f m) (fun i=>((i : Int),(l.take i).filter (fun e=>conS e.1 t),(l.take i).filter (fun e=>!conS e.1 t))) l.length (fun i h=>?_) ?_
    ·simp only [Lreplace_Insert_s1]
     have hc:=hcl _ (List.getElem_mem h);have l1:=hflen (fun e=>conS e.1 t) i;have l2:=hflen (fun e=>!conS e.1 t) i;rw [if_pos (by omega),idx_bind h,hc,bind_some',filter_take h,filter_take h];unfold Lreplace_Insert_k4;cases hcc : conS (l[i]).1 t
     ·rw [if_neg (by simp),tx_clone (hlim _ (List.getElem_mem h)),bind_some',chk_bind (by omega),wi_succ h (by omega),if_neg (by simp),if_pos (by simp),List.append_nil]
     ·rw [if_pos rfl,chk_bind (by omega),wi_succ h (by omega),if_pos (by simp),if_neg (by simp),List.append_nil]
    ·simp only [Lreplace_Insert_s1]
     rw [if_neg (by omega),List.take_length]
   rw [hp];obtain ⟨old,hold⟩ : ∃ old,(l.filter fun e=>conS e.1 t) = old:=⟨_,rfl⟩
   obtain ⟨lef,hlef⟩ : ∃ lef,(l.filter fun e=>!conS e.1 t) = lef:=⟨_,rfl⟩
   have ho1 : old.length≤100:=by rw [← hold]; have:=List.length_filter_le (fun e : Tapi_Entry=>conS e.1 t) l; omega
   have hl1 : lef.length≤100:=by rw [← hlef]; have:=List.length_filter_le (fun e : Tapi_Entry=>!conS e.1 t) l; omega
   have ho2 : ∀ e∈old,e∈l:=fun e he=>by rw [← hold] at he; exact (List.mem_filter.1 he).1
   have hl2 : ∀ e∈lef,e∈l:=fun e he=>by rw [← hlef] at he; exact (List.mem_filter.1 he).1
   rw [hold,hlef];unfold Lreplace_Insert_k1 Lref36_Insert_k1;obtain ⟨c,a1,a2,a3⟩:=accept_full (l:=old) (t:=t) (f:=f) (by omega) (fun e he=>hi e (ho2 e he));rw [a1,a2,bind_some',bind_some'];by_cases hc : c = 0
   ·have hnc : ¬ ¬ c = 0:=by simp [hc]
    have htl : limS t:=(check_lim (a3 hc).1).2;rw [if_neg hnc,if_neg hnc];obtain ⟨r,r1,r2,r3,r4,r5⟩:=cut_both (m:=m) (lef.length + 1) (lef++[(t,f)]) (old.map fun e=>idS e.1) (by simp) (by omega) (by simp; omega);refine ⟨r,?_,?_,fun e he=>?_,r4,r5,fun h=>(h hs).elim⟩
    ·refine runLoop_to (step:=Lreplace_Insert_s2 old t lef m f) (fun i=>((i : Int),(old.take i).map fun e=>idS e.1)) old.length (fun i h=>?_) ?_
     ·simp only [Lreplace_Insert_s2]
      rw [if_pos (by omega),inA_bind h,get_bind h,id_eq,bind_some',chk_bind (by simp; omega),wi_succ h (by omega),map_take _ h]
     ·simp only [Lreplace_Insert_s2]
      rw [if_neg (by omega),List.take_length];unfold Lreplace_Insert_k2;rw [tx_clone htl,bind_some',chk_bind (by omega),r1]
    ·refine runLoop_to (step:=Lref36_Insert_s2 old lef m t f) (fun i=>((i : Int),(old.take i).map fun e=>idS e.1)) old.length (fun i h=>?_) ?_
     ·simp only [Lref36_Insert_s2]
      rw [if_pos (by omega),inA_bind h,get_bind h,rid_eq,bind_some',chk_bind (by simp; omega),wi_succ h (by omega),map_take _ h]
     ·simp only [Lref36_Insert_s2]
      rw [if_neg (by omega),List.take_length];unfold Lref36_Insert_k2;rw [chk_bind (by omega),r2]
    ·rcases List.mem_append.1 (r3 e he) with h | h
     ·exact hlim e (hl2 e h)
     ·rw [List.mem_singleton.1 h]; exact htl
   ·rw [if_pos hc,if_pos hc]
    exact ⟨_,rfl,rfl,by simp,by simp,by simp,fun h=>(h hs).elim⟩
 ·have hn : ¬ decide (soundS l) = true:=by simp [hs]
  rw [if_pos hn,if_pos hn];exact ⟨_,rfl,rfl,by simp,by simp,by simp,fun _=>rfl⟩
theorem mod_tot' (a : Int) {n : Int} (hn : 0 < n) (hn2 : n≤4611686018427387904) : Tot (Lmill_Mod a n) fun r=>0≤r∧r < n :=
 ⟨_,mod_eq a (by omega) hn2,modS_in a (by omega)⟩
theorem rsame36 {l : List Tapi_Entry} (hl : l.length≤1000000) (h : ∀ e∈l,limS e.1) : Lref36_Same l l = some true:=by
 unfold Lref36_Same;rw [if_neg (by simp)];refine loop_all l.length (by omega) (fun i hi=>?_) ?_
 ·simp only [Lref36_Same_s1]
  rw [if_pos (by omega),idx_bind hi,idx_bind hi,if_neg (by simp),stx_same (h _ (List.getElem_mem hi)),bind_some',bind_some',if_neg (by simp)]
 ·simp only [Lref36_Same_s1]
  rw [if_neg (by omega)];rfl

/-! blocks -/
noncomputable def keepB (txs : List Tapi_Tx) (e : Tapi_Entry) : Bool:=txs.all fun t=>!(decide (idS e.1 = idS t)) && !(conS e.1 t)
theorem cf_c1 {a1 : Tapi_Entry} {l : List Tapi_Tx} (b : Tapi_Tx→Bool) (hl : l.length≤1000000000) (hb : ∀ x∈l,Lreplace_Confirm_1__r x a1 = some (b x)) : Lslices_ContainsFunc_of__api_Tx_api_Tx__replace_Confirm_1 l a1 = some (l.any b):=by
 unfold Lslices_ContainsFunc_of__api_Tx_api_Tx__replace_Confirm_1 Lslices_IndexFunc_of__api_Tx_api_Tx__replace_Confirm_1;refine find_loop l b (by omega) (fun i hi=>?_) ?_
 ·simp only [Lslices_IndexFunc_of__api_Tx_api_Tx__replace_Confirm_1_s1]
  rw [if_pos (by omega),idx_bind hi,hb _ (List.getElem_mem hi),bind_some']
 ·simp only [Lslices_IndexFunc_of__api_Tx_api_Tx__replace_Confirm_1_s1]
  rw [if_neg (by omega)];rfl
theorem keepB_iff (txs : List Tapi_Tx) (e : Tapi_Entry) : keepB txs e = (!(decide (idS e.1∈txs.map idS)) && !(txs.any fun t=>conS e.1 t)):=by
 induction txs with
 | nil=>simp [keepB]
 | cons t l ih =>
  unfold keepB at ih ⊢;rw [List.all_cons,ih,List.any_cons,List.map_cons];by_cases h1 : idS e.1 = idS t
  ·simp [h1]
  ·have h3 : (idS e.1 == idS t) = false:=by simpa using h1
   cases h2 : conS e.1 t <;> simp [h1,h3]
theorem confirm_eq {l : List Tapi_Entry} {b : Tapi_Block} (hl : l.length≤100) (hb : b.2.length≤100) (h1 : ∀ e∈l,limS e.1) (h2 : ∀ t∈b.2,t.2.1.length≤1000) : Lreplace_Confirm l b = some (l.filter (keepB b.2)):=by
 unfold Lreplace_Confirm;refine runLoop_to (step:=Lreplace_Confirm_s1 b l) (fun i=>((i : Int),mpL ((b.2.take i).map idS))) b.2.length (fun i hi=>?_) ?_
 ·simp only [Lreplace_Confirm_s1]
  rw [if_pos (by omega),idx_bind hi,id_eq,bind_some',wi_succ hi (by omega),map_take _ hi,mpL_app]
 ·simp only [Lreplace_Confirm_s1]
  rw [if_neg (by omega),List.take_length];unfold Lreplace_Confirm_k1
  congr 1
  refine runLoop_to (step:=Lreplace_Confirm_s2 l (mpL (b.2.map idS)) b) (fun i=>((i : Int),(l.take i).filter (keepB b.2))) l.length (fun i hi=>?_) ?_
  ·have hlen : ((l.take i).filter (keepB b.2)).length≤100:=by
    have h1:=List.length_filter_le (keepB b.2) (l.take i);have h2 : (l.take i).length≤l.length:=by simp; omega
    omega
   have hlim:=h1 _ (List.getElem_mem hi);simp only [Lreplace_Confirm_s2]
   rw [if_pos (by omega),idx_bind hi,id_eq,bind_some',mpL_get,cf_c1 (fun t=>conS (l[i]).1 t) (by omega) (fun t ht=>by
    unfold Lreplace_Confirm_1__r;rw [con_eq (by have:=hlim.1; omega) (by have:=h2 t ht; omega)]
    rfl),bind_some',filter_take hi,keepB_iff]
   unfold Lreplace_Confirm_k3;rw [tx_clone hlim,bind_some',chk_bind (by omega),wi_succ hi (by omega)];by_cases c1 : idS (l[i]).1∈b.2.map idS
   ·have e1 : decide (idS (l[i]).1∈b.2.map idS) = true:=by simpa using c1
    rw [e1];simp
   ·have e1 : decide (idS (l[i]).1∈b.2.map idS) = false:=decide_eq_false c1
    rw [e1];cases c2 : (b.2.any fun t=>conS (l[i]).1 t) <;> simp
  ·simp only [Lreplace_Confirm_s2]
   rw [if_neg (by omega),List.take_length];rfl
theorem rconfirm_eq {l : List Tapi_Entry} {b : Tapi_Block} (hl : l.length≤100) (hb : b.2.length≤100) (h1 : ∀ e∈l,limS e.1) (h2 : ∀ t∈b.2,t.2.1.length≤1000) : Lref36_Confirm l b = some (l.filter (keepB b.2)):=by
 unfold Lref36_Confirm;refine runLoop_to (step:=Lref36_Confirm_s1 l b) (fun i=>((i : Int),(l.take i).filter (keepB b.2))) l.length (fun i hi=>?_) ?_
 ·have hlen : ((l.take i).filter (keepB b.2)).length≤100:=by
   have h1:=List.length_filter_le (keepB b.2) (l.take i);have h2 : (l.take i).length≤l.length:=by simp; omega
   omega
  have hlim:=h1 _ (List.getElem_mem hi);simp only [Lref36_Confirm_s1];rw [if_pos (by omega)];refine runLoop_to (step:=Lref36_Confirm_s2 b l (i : Int) ((l.take i).filter (keepB b.2))) (fun k=>(keepB (b.2.take k) l[i],(k : Int))) b.2.length (fun k hk=>?_) ?_
  ·simp only [Lref36_Confirm_s2]
   have hkb : keepB (b.2.take (k + 1)) l[i] = (keepB (b.2.take k) l[i] && (!(decide (idS (l[i]).1 = idS b.2[k])) && !(conS (l[i]).1 b.2[k]))):=by
    unfold keepB;rw [List.take_succ_eq_append_getElem hk,List.all_append];simp
   rw [if_pos (by omega),idx_bind hi,rid_eq,bind_some',idx_bind hk,rid_eq,bind_some',idx_bind hi,idx_bind hk,rcon_eq (by have:=hlim.1; omega) (by have:=h2 _ (List.getElem_mem hk); omega),bind_some',wi_succ hk (by omega),hkb];cases keepB (b.2.take k) l[i]
   ·simp
   ·cases hd : decide (idS (l[i]).1 = idS b.2[k])
    ·simp
    ·simp
  ·simp only [Lref36_Confirm_s2]
   rw [if_neg (by omega),List.take_length];unfold Lref36_Confirm_k2 Lref36_Confirm_k3;rw [idx_bind hi,chk_bind (by omega),wi_succ hi (by omega),filter_take hi];cases keepB b.2 l[i] <;> simp
 ·simp only [Lref36_Confirm_s1]
  rw [if_neg (by omega),List.take_length];rfl
end Go.Lc
end
section
/- Law 36: what a pool is after a transaction was put into it,and after a block. -/
namespace Go.Lc
open Go.RowKit
open Go.Av
set_option linter.unusedVariables false
set_option linter.unusedSimpArgs false
set_option maxRecDepth 100000

theorem ins_s3 {r : (List Tapi_Entry)×(List (Arr 32))×Int} (h : r.2.1.length≤100000) {j : Nat} (hj : j < 2) : runLoop (Llaw36_ReplaceInserts_s3 r r (j : Int)) 0 = some (.inl ((j + 1 : Nat) : Int)):=by
 refine runLoop_to (step:=Llaw36_ReplaceInserts_s3 r r (j : Int)) (fun i=>(i : Int)) r.2.1.length (fun i hi=>?_) ?_
 ·simp only [Llaw36_ReplaceInserts_s3]
  rw [if_pos (by omega),idx_bind hi,idx_bind hi,if_neg (by simp),wi_succ hi (by omega)]
 ·simp only [Llaw36_ReplaceInserts_s3]
  rw [if_neg (by omega)];unfold Llaw36_ReplaceInserts_k4;rw [wi_succ hj (by omega)]
theorem ins_s2 {a2 y16 : Int} {y3 : (List Tapi_Entry)×Tlightclientmill_Deck} (hy : Q1L y3) {p10 : Int} {p12 : List Tapi_Input} {p13 : List Tapi_Output} {p11 x : Int} (ht : p12.length≤1000) {i : Nat} (hi : i < 2) : runLoop (Llaw36_ReplaceInserts_s2 a2 y16 y3 p10 p12 p13 p11 x (i : Int)) 0 = some (.inl ((i + 1 : Nat) : Int)):=by
 obtain ⟨g1,g2,g3⟩:=hy;refine runLoop_to (step:=Llaw36_ReplaceInserts_s2 a2 y16 y3 p10 p12 p13 p11 x (i : Int)) (fun j=>(j : Int)) 2 (fun j hj=>?_) ?_
 ·simp only [Llaw36_ReplaceInserts_s2]
  obtain ⟨r,r1,r2,r3,r4,r5,r6⟩:=insert_both (l:=y3.1) (t:=(p10,p12,p13,p11)) (f:=x) (m:=[a2,y16][j]'(by simpa using hj)) (by omega) (fun e he=>by have:=(g2 e he).1; omega) ht;rw [if_pos (by omega),inA_bind hj,get_bind (by simpa using hj),r1,r2,bind_some',bind_some',if_neg (by simp),rsame36 (by omega) r3,bind_some',bind_some',if_neg (by simp),ins_s3 r5 hj]
 ·simp only [Llaw36_ReplaceInserts_s2]
  rw [if_neg (by omega)];unfold Llaw36_ReplaceInserts_k3;rw [wi_succ hi (by omega)]
theorem ins_k2 {y3 : (List Tapi_Entry)×Tlightclientmill_Deck} (hy : Q1L y3) {y14 : Int×Tlightclientmill_Deck} (hd : DeckOk y14.2) {p10 : Int} {p12 : List Tapi_Input} {p13 : List Tapi_Output} {p11 : Int} (ht : p12.length≤1000) : Llaw36_ReplaceInserts_k2 y3 y14 p10 p12 p13 p11 = some true:=by
 classical
 obtain ⟨g1,g2,g3⟩:=hy;unfold Llaw36_ReplaceInserts_k2;rw [chk_bind (by omega),chk_bind (by omega)];obtain ⟨y152,e1,h1,h2⟩:=tx_lim hd;rw [e1,bind_some'];have hb1 : (y3.1++[((p10,p12,p13,p11),(-1 : Int))]).length≤100:=by simp; omega
 have hb2 : ∀ e∈y3.1++[((p10,p12,p13,p11),(-1 : Int))],e.1.2.1.length≤1000:=mem_app1 (fun e he=>by have:=(g2 e he).1; omega) ht
 have hns : ¬ soundS (y3.1++[((p10,p12,p13,p11),(-1 : Int))]):=by
  intro h;have:=(h.1 _ (List.mem_append_right _ (List.mem_singleton.2 rfl))).2.2;simp [monB] at this
 obtain ⟨r,r1,r2,r3,r4,r5,r6⟩:=insert_both (l:=y3.1++[((p10,p12,p13,p11),(-1 : Int))]) (t:=(y152.1.1,y152.1.2.1,y152.1.2.2.1,y152.1.2.2.2)) (f:=9) (m:=9) hb1 hb2 (by have:=h1.1; dsimp only; omega);rw [r1,bind_some'];unfold Lmill_New;rw [bind_some'];obtain ⟨y155,e3,h3,h4⟩:=tx_lim (d:=([],0)) ⟨by simp,by simp,by simp⟩;rw [e3,bind_some'];obtain ⟨s,s1,s2,s3,s4,s5,s6⟩:=insert_both (l:=y3.1++[((p10,p12,p13,p11),(-1 : Int))]) (t:=(y155.1.1,y155.1.2.1,y155.1.2.2.1,y155.1.2.2.2)) (f:=9) (m:=9) hb1 hb2 (by have:=h3.1; dsimp only; omega);rw [s2,bind_some',r6 hns,s6 hns];obtain ⟨y157,e5,h5,h6⟩:=tx_lim h2;rw [e5,bind_some'];have hl : ∀ e∈y3.1,limS e.1:=fun e he=>(g2 e he).2
 have hc2 : ∀ t∈(((0,zA 32,zA 32,0,0,0),[(y157.1.1,y157.1.2.1,y157.1.2.2.1,y157.1.2.2.2),(p10,p12,p13,p11)]) : Tapi_Block).2,t.2.1.length≤1000:=by
  intro t ht';simp only [List.mem_cons,List.not_mem_nil,or_false] at ht';rcases ht' with rfl | rfl
  ·have:=h5.1; dsimp only; omega
  ·exact ht
 rw [if_pos rfl,confirm_eq (by omega) (by simp) hl hc2,rconfirm_eq (by omega) (by simp) hl hc2,bind_some',bind_some',rsame36 (by
  have:=List.length_filter_le (keepB (((0,zA 32,zA 32,0,0,0),[(y157.1.1,y157.1.2.1,y157.1.2.2.1,y157.1.2.2.2),(p10,p12,p13,p11)]) : Tapi_Block).2) y3.1
  omega) (fun e he=>hl e (List.mem_filter.1 he).1)]
 rfl
theorem ins_k1 {y3 : (List Tapi_Entry)×Tlightclientmill_Deck} (hy : Q1L y3) (a1 a2 : Int) {d : Tlightclientmill_Deck} (hd : DeckOk d) {p10 : Int} {p12 : List Tapi_Input} {p13 : List Tapi_Output} {p11 : Int} (ht : p12.length≤1000) : Llaw36_ReplaceInserts_k1 a1 a2 y3 d p10 p12 p13 p11 = some true:=by
 unfold Llaw36_ReplaceInserts_k1;obtain ⟨y14,e1,h1,h2⟩:=next_tot hd (n:=4000) (by omega) (by omega);rw [e1,bind_some'];refine loop_all 2 (by omega) (fun i hi=>?_) ?_
 ·simp only [Llaw36_ReplaceInserts_s1]
  obtain ⟨m,e2,_⟩:=mod_tot' a2 (n:=6) (by omega) (by omega);rw [if_pos (by omega),inA_bind hi,get_bind (by simpa using hi),e2,bind_some',ins_s2 hy ht hi,wi_succ hi (by omega)]
 ·simp only [Llaw36_ReplaceInserts_s1]
  rw [if_neg (by omega),ins_k2 hy h2 ht]
theorem replaceInserts (a0 : List Int) (a1 a2 : Int) (h : a0.length≤9223372036854775807) : Llaw36_ReplaceInserts a0 a1 a2 = some true:=by
 unfold Llaw36_ReplaceInserts;rw [sane36,bind_some',if_neg (by simp)];unfold Lmill_New;rw [bind_some'];have hd : DeckOk (a0,0):=⟨by simp,by simp,h⟩
 obtain ⟨y3,e3,h3⟩:=pool_totL hd (m:=5) (by omega);rw [e3,bind_some'];obtain ⟨y4,e4,h4,h5⟩:=tx_lim h3.2.2;rw [e4,bind_some'];split
 ·rename_i hc
  have hlen:=h3.1;obtain ⟨y5,e5,⟨h6,h7⟩,h8⟩:=next_tot h5 (n:=(y3.1.length : Int)) (by omega) (by omega);rw [e5,bind_some'];obtain ⟨k,hk⟩:=Int.eq_ofNat_of_zero_le h6;have hk2 : k < y3.1.length:=by omega
  rw [hk,inA_bind hk2,get_bind hk2];obtain ⟨y6,e6,h9,h10⟩:=heir_tot h8 (t:=(y3.1[k]).1) (by have:=(h3.2.1 _ (List.getElem_mem hk2)).1; omega);rw [e6,bind_some',ins_k1 h3 a1 a2 h10 (by omega)]
 ·rw [ins_k1 h3 a1 a2 h5 (by have:=h4.1; omega)]
end Go.Lc
end
