import Derived.Test.YtjdoijdjeapekaaLcG5
section
/- Law 34: making plans. -/
namespace Go.Lc
open Go.RowKit
open Go.Av
set_option linter.unusedVariables false
set_option linter.unusedSimpArgs false
set_option maxRecDepth 100000

/-! fees -/
def feeF (w r : Int) : Int:=(r * w + 999) / 1000
theorem feeF_eq {w r : Int} (hw : 0≤w∧w≤80000) (hr : 0≤r∧r≤1048576) : Lbuild_Fee w r = some (feeF w r):=by
 unfold Lbuild_Fee feeF;have h1 : 0≤r * w:=Int.mul_nonneg (by omega) (by omega);have h2 : r * w≤1048576 * 80000:=Int.mul_le_mul (by omega) (by omega) (by omega) (by omega);rw [if_neg (by omega),wi (r * w) (by omega),wi (r * w + 999) (by omega),Int.tdiv_eq_ediv_of_nonneg (by omega),wi _ (by omega)]
theorem feeF_add (a b r : Int) : feeF (a + b) r≤feeF a r + feeF b r:=by
 unfold feeF;rw [Int.mul_add];omega
theorem feeF_nn {w r : Int} (hw : 0≤w) (hr : 0≤r) : 0≤feeF w r:=by
 unfold feeF;have:=Int.mul_nonneg hr hw;omega
theorem feeF_le {w r : Int} (hw : 0≤w∧w≤80000) (hr : 0≤r∧r≤3000) : feeF w r≤240001:=by
 unfold feeF;have h2 : r * w≤3000 * 80000:=Int.mul_le_mul (by omega) (by omega) (by omega) (by omega);omega

/-! weights -/
theorem flat_len13 {outs : List Tapi_Output} (h : ∀ o∈outs,o.2.length = 4) : (outs.flatMap outB).length = 13 * outs.length:=by
 induction outs with
 | nil=>rfl
 | cons o l ih =>
  have h1:=h o (by simp);have h2:=ih fun x hx=>h x (by simp [hx])
  have h3 : (outB o).length = 13:=by
   unfold outB bytesB;rw [h1];simp [sizeB]
   omega
  rw [List.flatMap_cons,List.length_append,h2,h3,List.length_cons];omega
theorem flat_len40 {ins : List Tapi_Input} : (ins.flatMap inB).length = 40 * ins.length:=by
 induction ins with
 | nil=>rfl
 | cons o l ih =>
  rw [List.flatMap_cons,List.length_append,ih,inB_len,List.length_cons];omega
theorem flat_len1 {ins : List Tapi_Input} (h : ∀ x∈ins,x.2.2 = []) : (ins.flatMap witB).length = ins.length:=by
 induction ins with
 | nil=>rfl
 | cons o l ih =>
  have h1:=h o (by simp);have h2:=ih fun x hx=>h x (by simp [hx])
  have h3 : (witB o).length = 1:=by unfold witB; rw [h1]; simp [sizeB]
  rw [List.flatMap_cons,List.length_append,h2,h3,List.length_cons];omega
theorem size1 {n : Nat} (h : n≤100) : (sizeB (n : Int)).length = 1:=by
 unfold sizeB;rw [if_pos (by omega)];simp
/-- a transaction that a plan has -/
def mkT (ins : List Tapi_Input) (outs : List Tapi_Output) : Tapi_Tx:=(1,ins,outs,0)
structure TxOk (ins : List Tapi_Input) (outs : List Tapi_Output) : Prop where
 i1 : ins.length≤10
 i2 : ∀ x∈ins,x.2.2 = []
 o1 : outs.length≤10
 o2 : ∀ o∈outs,0≤o.1∧o.2.length = 4
theorem enc_mk {ins : List Tapi_Input} {outs : List Tapi_Output} (h : TxOk ins outs) (w : Bool) : (encS (mkT ins outs) w).length = 10 + 40 * ins.length + 13 * outs.length + if w then ins.length else 0:=by
 have hi:=h.i1;have ho:=h.o1;have e1:=size1 (n:=ins.length) (by omega);have e2:=size1 (n:=outs.length) (by omega);have e3:=flat_len13 fun o ho=>(h.o2 o ho).2
 have e4:=flat_len40 (ins:=ins);have e5:=flat_len1 h.i2;unfold encS headB mkT;cases w
 ·simp only [List.length_append,lowB_len,e1,e2,e3,e4,Bool.false_eq_true,if_false,List.length_nil]
  omega
 ·simp only [List.length_append,lowB_len,e1,e2,e3,e4,e5,if_true]
  omega
theorem lim_mk {ins : List Tapi_Input} {outs : List Tapi_Output} (h : TxOk ins outs) : limS (mkT ins outs):=by
 have hi:=h.i1;have ho:=h.o1;refine ⟨by unfold mkT; dsimp only; omega,by unfold mkT; dsimp only; omega,fun o ho=>?_,fun x hx=>?_⟩
 ·have:=h.o2 o ho
  omega
 ·have:=h.i2 x hx
  rw [this];simp
theorem fits_mk {ins : List Tapi_Input} {outs : List Tapi_Output} (h : TxOk ins outs) : fitsS (mkT ins outs) = true:=by
 classical
 have hi:=h.i1;have ho:=h.o1;unfold fitsS;simp only [decide_eq_true_eq];refine ⟨lim_mk h,?_⟩;rw [enc_mk h];simp
 omega
theorem weight_mk {ins : List Tapi_Input} {outs : List Tapi_Output} (h : TxOk ins outs) : weightS (mkT ins outs) = 40 + 161 * ins.length + 52 * outs.length:=by
 unfold weightS;rw [if_pos (fits_mk h),enc_mk h,enc_mk h];simp
 omega
theorem bare_mk {ins : List Tapi_Input} {outs : List Tapi_Output} (h : ∀ x∈ins,x.2.2 = []) : bareS (mkT ins outs) = mkT ins outs:=by
 unfold bareS mkT;dsimp only
 congr 2
 refine (List.map_congr_left fun x hx=>?_).trans (List.map_id _);show (x.1,x.2.1,([] : List (List Int))) = x
 rw [← h x hx]
theorem sumW_eq : ∀ (l : List Tapi_Spendable) (n : Int),0≤n→n + 100 * l.length≤1000000→(∀ x∈l,0≤x.2∧x.2≤100)→sumW n l = n + sumI (l.map fun x=>x.2):=by
 intro l;induction l with
 | nil=>intro n _ _ _; simp [sumW,sumI]
 | cons x l ih =>
  intro n h0 h1 h2;have h3:=h2 x (by simp);rw [List.length_cons] at h1;have:=ih (n + x.2) (by omega) (by omega) fun y hy=>h2 y (by simp [hy])
  unfold sumW at *;rw [List.foldl_cons,wi _ (by omega),this];simp only [List.map_cons,sumI];omega
theorem check_mk {ins : List Tapi_Input} {outs : List Tapi_Output} (h : TxOk ins outs) (h0 : ins≠[]) (h1 : outs≠[]) (hs : sumI (outs.map Prod.fst)≤2100000000000000) (hd : (ins.map Prod.fst).Nodup) (hn : ∀ x∈ins,x.1≠nullP) : checkS (mkT ins outs) = 0:=by
 classical
 unfold checkS;rw [if_neg (by simp [fits_mk h]),if_neg,if_neg,if_neg,if_neg]
 ·rintro ⟨hm,_⟩
  obtain ⟨x,hx,e⟩:=List.mem_map.1 hm;exact hn x hx e
 ·rintro ⟨i,hi,hi2,hm⟩
  obtain ⟨j,hj,e⟩:=List.mem_take_iff_getElem.1 hm;have:=(List.nodup_iff_pairwise_ne.1 hd)
  have hji : j < i:=Nat.lt_of_lt_of_le hj (Nat.min_le_left _ _);exact List.pairwise_iff_getElem.1 this j i (Nat.lt_trans hji hi2) hi2 hji e
 ·show ¬ (2100000000000000 : Int) < sumI (outs.map Prod.fst)
  omega
 ·rintro (h | h)
  ·exact h0 (List.length_eq_zero_iff.1 h)
  ·exact h1 (List.length_eq_zero_iff.1 h)
theorem cb_mk {ins : List Tapi_Input} {outs : List Tapi_Output} (hn : ∀ x∈ins,x.1≠nullP) : cbS (mkT ins outs) = false:=by
 unfold cbS mkT
 match ins,hn with
 | [],_=>rfl
 | [x],hn=>simpa using hn x (by simp)
 | x :: y :: l,_=>rfl

/-! arguments -/
structure SpOk (c : List Tapi_Spendable) : Prop where
 len : c.length≤8
 val : ∀ x∈c,(0≤x.1.2.1.1∧x.1.2.1.1 < 4000)∧(0≤x.2∧x.2 < 70)∧x.1.2.1.2.length≤1000000∧x.1.1≠nullP
 dis : (c.map fun x=>x.1.1).Nodup
structure OuOk (o : List Tapi_Output) : Prop where
 ne : o≠[]
 len : o.length≤3
 val : ∀ x∈o,(300≤x.1∧x.1 < 2300)∧x.2.length = 4
theorem ou_sum {o : List Tapi_Output} (h : OuOk o) : 300≤sumI (o.map Prod.fst)∧sumI (o.map Prod.fst)≤6900:=by
 have h1 : sumI (o.map Prod.fst)≤(o.map Prod.fst).length * 2300:=sumI_le fun v hv=>by
  obtain ⟨x,hx,rfl⟩:=List.mem_map.1 hv;have:=(h.val x hx).1;omega
 have hl:=h.len;rw [List.length_map] at h1;refine ⟨?_,by omega⟩;rcases o with _ | ⟨x,l⟩
 ·exact (h.ne rfl).elim
 ·have h2:=(h.val x (by simp)).1
  have h3:=sumI_pos (l:=l.map Prod.fst) fun v hv=>by
   obtain ⟨y,hy,rfl⟩:=List.mem_map.1 hv;have:=(h.val y (by simp [hy])).1;omega
  simp only [List.map_cons,sumI];omega
theorem chkO {o : List Tapi_Output} {s : List Int} (h : OuOk o) (hs : s.length≤252) : Lbuild_checkOutputs o s = some 0:=by
 have hl:=h.len;have hsum:=ou_sum h
 have hp : ∀ v∈o.map Prod.fst,0≤v:=fun v hv=>by
  obtain ⟨y,hy,rfl⟩:=List.mem_map.1 hv;have:=(h.val y hy).1;omega
 have h0 : ¬ (o.length : Int) = 0:=fun e=>h.ne (List.length_eq_zero_iff.1 (by omega))
 unfold Lbuild_checkOutputs;rw [if_neg h0];refine runLoop_to (step:=Lbuild_checkOutputs_s1 o s) (fun i=>(i : Int)) o.length (x:=some 0) (fun i hi=>?_) ?_
 ·have:=(h.val _ (List.getElem_mem hi)).1
  simp only [Lbuild_checkOutputs_s1];rw [if_pos (by omega),idx_bind hi,if_neg (by omega),wi_succ hi (by omega)]
 ·simp only [Lbuild_checkOutputs_s1]
  rw [if_neg (by omega)];unfold Lbuild_checkOutputs_k1;rw [if_neg (by omega)]
  have:=runLoop_to (step:=Lbuild_checkOutputs_s2 o) (fun i=>(sumI ((o.map Prod.fst).take i),(i : Int))) o.length (x:=some 0) (fun i hi=>by
   have hi2 : i < (o.map Prod.fst).length:=by simpa using hi
   have h1:=sumI_take hi2;have h2:=sumI_mono hp (i + 1);have h3:=sumI_pos (l:=(o.map Prod.fst).take i) fun v hv=>hp v (List.mem_of_mem_take hv)
   have h4:=(h.val _ (List.getElem_mem hi)).1;have h5 : (o.map Prod.fst)[i] = (o[i]).1:=by simp
   rw [h5] at h1;simp only [Lbuild_checkOutputs_s2];rw [if_pos (by omega),idx_bind hi,wi (2100000000000000 - _) (by omega),if_neg (by omega),wi_succ hi (by omega),wi _ (by omega),h1]) (by
   simp only [Lbuild_checkOutputs_s2];rw [if_neg (by omega)]
   rfl)
  rw [show runLoop (Lbuild_checkOutputs_s2 o) (0,0) = some 0 by simpa [sumI] using this]
theorem chkA {c : List Tapi_Spendable} {o : List Tapi_Output} {s : List Int} {r : Int} (hc : SpOk c) (h : OuOk o) (hs : s.length≤252) (hr : 0≤r∧r < 3000) : Lbuild_check c o s r = some 0:=by
 have hl:=hc.len;unfold Lbuild_check;rw [if_neg (by omega)];refine runLoop_to (step:=Lbuild_check_s1 c o s) (fun i=>(i : Int)) c.length (x:=some 0) (fun i hi=>?_) ?_
 ·obtain ⟨h1,h2,_⟩:=hc.val _ (List.getElem_mem hi)
  simp only [Lbuild_check_s1];rw [if_pos (by omega),idx_bind hi,if_neg (by omega),wi_succ hi (by omega)]
 ·simp only [Lbuild_check_s1]
  rw [if_neg (by omega)];unfold Lbuild_check_k1;rw [chkO h hs,bind_some',if_neg (by simp)]
  congr 1
  refine runLoop_to (step:=Lbuild_check_s2 c) (fun i=>(i : Int)) c.length (x:=some 0) (fun i hi=>?_) ?_
  ·obtain ⟨_,_,_,h3⟩:=hc.val _ (List.getElem_mem hi)
   have hnn : Lbuild_null (c[i]).1.1 = some false:=by
    unfold Lbuild_null
    congr 1
    rw [Bool.and_eq_false_iff];by_cases e1 : (c[i]).1.1.1 = zA 32
    ·refine .inr (decide_eq_false fun e2=>h3 (Prod.ext e1 e2))
    ·exact .inl (decide_eq_false e1)
   simp only [Lbuild_check_s2];rw [if_pos (by omega),idx_bind hi,hnn,bind_some',if_neg (by simp),wi_succ hi (by omega)]
  ·simp only [Lbuild_check_s2]
   rw [if_neg (by omega)];unfold Lbuild_check_k2
   congr 1
   refine runLoop_to (step:=Lbuild_check_s3 c) (fun i=>((i : Int),mpL ((c.take i).map fun x=>x.1.1))) c.length (x:=some 0) (fun i hi=>?_) ?_
   ·have hnm : (c[i]).1.1 ∉ (c.take i).map fun x=>x.1.1:=by
     intro hm;obtain ⟨x,hx,e⟩:=List.mem_map.1 hm;obtain ⟨j,hj,rfl⟩:=List.mem_take_iff_getElem.1 hx;have:=List.pairwise_iff_getElem.1 (List.nodup_iff_pairwise_ne.1 hc.dis) j i (by simp; omega) (by simpa using hi) (by omega);simp only [List.getElem_map] at this;exact this e
    simp only [Lbuild_check_s3];rw [if_pos (by omega),idx_bind hi,mpL_get,if_neg (by simpa using hnm),wi_succ hi (by omega),map_take _ hi,mpL_app]
   ·simp only [Lbuild_check_s3]
    rw [if_neg (by omega)];rfl
/-! choosing -/
def effV (r : Int) (x : Tapi_Spendable) : Int:=x.1.2.1.1 - feeF (161 + x.2) r
def useful (r : Int) (c : List Tapi_Spendable) : List Tapi_Spendable:=c.filter fun x=>decide (1≤effV r x)
theorem choose_eq {c : List Tapi_Spendable} {t r : Int} (hc : SpOk c) (ht : 1≤t∧t≤1000000000) (hr : 0≤r∧r < 3000) : Lbuild_choose c t r = some ([],320)∨∃ ch,ch.Sublist c∧ch≠[]∧t≤sumI (ch.map (effV r))∧Lbuild_choose c t r = some (ch,0):=by
 have hl:=hc.len
 have hfl : ∀ i,((c.take i).filter fun x=>decide (1≤effV r x)).length≤8:=fun i=>by
  have h1:=List.length_filter_le (fun x=>decide (1≤effV r x)) (c.take i);have h2 : (c.take i).length≤c.length:=by simp; omega
  omega
 have hun : Lbuild_choose c t r = Lbuild_choose_k1 ((useful r c).map (effV r)) t (useful r c):=by
  unfold Lbuild_choose;refine runLoop_to (step:=Lbuild_choose_s1 c r t) (fun i=>((i : Int),(c.take i).filter (fun x=>decide (1≤effV r x)),((c.take i).filter (fun x=>decide (1≤effV r x))).map (effV r))) c.length (fun i hi=>?_) ?_
  ·obtain ⟨h1,h2,_⟩:=hc.val _ (List.getElem_mem hi)
   have h3:=feeF_nn (w:=161 + (c[i]).2) (r:=r) (by omega) (by omega);have h4:=feeF_le (w:=161 + (c[i]).2) (r:=r) (by omega) (by omega);have h5:=hfl i;simp only [Lbuild_choose_s1];unfold Lbuild_InputWeight Lbuild_choose_k3;rw [if_pos (by omega),idx_bind hi,bind_some',wi (161 + _) (by omega),feeF_eq (by omega) (by omega),bind_some',wi ((c[i]).1.2.1.1 - _) (by omega),filter_take hi];by_cases h : 1≤effV r c[i]
   ·have h' : 1≤(c[i]).1.2.1.1 - feeF (161 + (c[i]).2) r:=h
    rw [if_pos h',chk_bind (by omega),chk_bind (by rw [List.length_map]; omega),wi_succ hi (by omega),if_pos (by simpa using h),List.map_append];rfl
   ·have h' : ¬ 1≤(c[i]).1.2.1.1 - feeF (161 + (c[i]).2) r:=h
    rw [if_neg h',wi_succ hi (by omega),if_neg (by simpa using h),List.append_nil]
  ·simp only [Lbuild_choose_s1]
   rw [if_neg (by omega),List.take_length];rfl
 rw [hun]
 have hul : (useful r c).length≤8:=by
  have:=hfl c.length;rw [List.take_length] at this;exact this
 have huv : ∀ v∈(useful r c).map (effV r),1≤v∧v≤1000000:=fun v hv=>by
  obtain ⟨x,hx,rfl⟩:=List.mem_map.1 hv;obtain ⟨hx1,hx2⟩:=List.mem_filter.1 hx;obtain ⟨h1,h2,_⟩:=hc.val _ hx1;have h3:=feeF_nn (w:=161 + x.2) (r:=r) (by omega) (by omega);have : 1≤effV r x:=by simpa using hx2
  refine ⟨this,?_⟩;unfold effV;omega
 unfold Lbuild_choose_k1;rcases best_ok (vals:=(useful r c).map (effV r)) (t:=t) (by rw [List.length_map]; omega) huv ht with ⟨_,hb⟩ | ⟨b,tr,hg,hb⟩
 ·rw [hb,bind_some',if_pos (by simp)]
  exact .inl rfl
 ·rw [hb,bind_some',if_neg (by simp)]
  obtain ⟨g1,g2,g3,g4⟩:=hg;rw [List.length_map] at g1;have hmem : ∀ n∈b.1,n < (useful r c).length:=fun n hn=>List.mem_range.1 (g1.subset hn)
  have hbl : b.1.length≤8:=by have:=g1.length_le; rw [List.length_range] at this; omega
  have hpm : ∀ ns : List Nat,picks ((useful r c).map (effV r)) ns = (picks (useful r c) ns).map (effV r):=fun ns=>by
   unfold picks;rw [List.map_filterMap]
   congr 1
   funext i
   rw [List.getElem?_map]
  refine .inr ⟨picks (useful r c) b.1,(picks_sub g1).trans List.filter_sublist,fun e=>?_,?_,?_⟩
  ·obtain ⟨n,l,e2⟩:=List.exists_cons_of_ne_nil g4
   have hn:=hmem n (by rw [e2]; simp);rw [e2] at e;unfold picks at e;rw [List.filterMap_cons,List.getElem?_eq_getElem hn] at e;cases e
  ·rw [← hpm,g2]
   exact g3
  ·refine runLoop_to (step:=Lbuild_choose_s2 ((up b.1,b.2),tr,0) (useful r c)) (fun i=>((i : Int),picks (useful r c) (b.1.take i))) b.1.length (x:=some (picks (useful r c) b.1,0)) (fun i hi=>?_) ?_
   ·have hn:=hmem _ (List.getElem_mem hi)
    have hpl : (picks (useful r c) (b.1.take i)).length≤8:=by
     have h1:=List.length_filterMap_le (fun i=>(useful r c)[i]?) (b.1.take i);have h2 : (b.1.take i).length≤b.1.length:=by simp; omega
     unfold picks;omega
    have hi2 : i < (up b.1).length:=by rw [up_len]; exact hi
    have hup : (up b.1)[i] = ((b.1[i] : Nat) : Int):=by simp [up]
    simp only [Lbuild_choose_s2];rw [if_pos (by rw [up_len]; omega),idx_bind hi2,hup,inA_bind hn,get_bind hn,chk_bind (by omega),wi_succ hi (by omega),List.take_succ_eq_append_getElem hi,picks_app hn]
   ·simp only [Lbuild_choose_s2]
    rw [if_neg (by rw [up_len]; omega),List.take_length];rfl
end Go.Lc
end
section
/- Law 34: plans that are made balance. -/
namespace Go.Lc
open Go.RowKit
open Go.Av
set_option linter.unusedVariables false
set_option linter.unusedSimpArgs false
set_option maxRecDepth 100000

theorem paid_eq {l : List Tapi_Output} (h : ∀ x∈l,0≤x.1) (hs : sumI (l.map Prod.fst)≤2100000000000000) (hl : l.length≤1000) : Lbuild_paid l = some (sumI (l.map Prod.fst)):=by
 have hp : ∀ v∈l.map Prod.fst,0≤v:=fun v hv=>by
  obtain ⟨y,hy,rfl⟩:=List.mem_map.1 hv;exact h y hy
 unfold Lbuild_paid
 have:=runLoop_to (step:=Lbuild_paid_s1 l) (fun i=>(sumI ((l.map Prod.fst).take i),(i : Int))) l.length (x:=some (sumI (l.map Prod.fst))) (fun i hi=>by
  have hi2 : i < (l.map Prod.fst).length:=by simpa using hi
  have h1:=sumI_take hi2;have h2:=sumI_mono hp (i + 1);have h3:=sumI_pos (l:=(l.map Prod.fst).take i) fun v hv=>hp v (List.mem_of_mem_take hv)
  have h5 : (l.map Prod.fst)[i] = (l[i]).1:=by simp
  have h6:=h _ (List.getElem_mem hi);rw [h5] at h1;simp only [Lbuild_paid_s1];rw [if_pos (by omega),idx_bind hi,wi_succ hi (by omega),wi _ (by omega),h1]) (by
  simp only [Lbuild_paid_s1];rw [if_neg (by omega),List.take_of_length_le (by simp)]
  rfl)
 simpa [sumI] using this
def insS (ch : List Tapi_Spendable) (q : Int) : List Tapi_Input:=ch.map fun x=>(x.1.1,q,[])
def coS (ch : List Tapi_Spendable) : List Tapi_Coin:=ch.map fun x=>x.1
def valS (ch : List Tapi_Spendable) : Int:=sumI (ch.map fun x=>x.1.2.1.1)
def wtS (ch : List Tapi_Spendable) : Int:=sumI (ch.map fun x=>x.2)
structure ChOk (c ch : List Tapi_Spendable) : Prop where
 sub : ch.Sublist c
 ne : ch≠[]
theorem ch_sp {c ch : List Tapi_Spendable} (hc : SpOk c) (h : ch.Sublist c) : SpOk ch:=⟨by have:=h.length_le; have:=hc.len; omega,fun x hx=>hc.val x (h.subset hx),List.Nodup.sublist (h.map _) hc.dis⟩
theorem val_bnd {ch : List Tapi_Spendable} (h : SpOk ch) : 0≤valS ch∧valS ch≤32000:=by
 have h1 : valS ch≤(ch.map fun x=>x.1.2.1.1).length * 4000:=sumI_le fun v hv=>by
  obtain ⟨x,hx,rfl⟩:=List.mem_map.1 hv;have:=(h.val x hx).1;omega
 have h2 : 0≤valS ch:=sumI_pos fun v hv=>by
  obtain ⟨x,hx,rfl⟩:=List.mem_map.1 hv;have:=(h.val x hx).1;omega
 have:=h.len;rw [List.length_map] at h1;omega
theorem wt_bnd {ch : List Tapi_Spendable} (h : SpOk ch) : 0≤wtS ch∧wtS ch≤800:=by
 have h1 : wtS ch≤(ch.map fun x=>x.2).length * 100:=sumI_le fun v hv=>by
  obtain ⟨x,hx,rfl⟩:=List.mem_map.1 hv;have:=(h.val x hx).2.1;omega
 have h2 : 0≤wtS ch:=sumI_pos fun v hv=>by
  obtain ⟨x,hx,rfl⟩:=List.mem_map.1 hv;have:=(h.val x hx).2.1;omega
 have:=h.len;rw [List.length_map] at h1;omega
theorem eff_sum (r : Int) : ∀ ch : List Tapi_Spendable,(∀ x∈ch,0≤x.2)→0≤r→sumI (ch.map (effV r)) + feeF (161 * ch.length + wtS ch) r≤valS ch:=by
 intro ch;induction ch with
 | nil=>intro _ hr; simp [sumI,wtS,valS,feeF]
 | cons x l ih =>
  intro h hr;have h1:=ih (fun y hy=>h y (by simp [hy])) hr;have e1 : sumI ((x :: l).map (effV r)) = effV r x + sumI (l.map (effV r)):=rfl;have e2 : wtS (x :: l) = x.2 + wtS l:=rfl;have e3 : valS (x :: l) = x.1.2.1.1 + valS l:=rfl;have e4:=feeF_add (161 + x.2) (161 * l.length + wtS l) r
  have e5 : (161 * (x :: l).length + wtS (x :: l) : Int) = (161 + x.2) + (161 * l.length + wtS l):=by
   rw [e2,List.length_cons];omega
  rw [e1,e3,e5];unfold effV at *;omega
theorem ins_ok {ch : List Tapi_Spendable} (h : SpOk ch) (q : Int) : (insS ch q).length = ch.length∧(∀ x∈insS ch q,x.2.2 = [])∧((insS ch q).map Prod.fst).Nodup∧∀ x∈insS ch q,x.1≠nullP:=by
 refine ⟨by simp [insS],fun x hx=>?_,?_,fun x hx=>?_⟩
 ·obtain ⟨y,_,rfl⟩:=List.mem_map.1 hx
  rfl
 ·have : (insS ch q).map Prod.fst = ch.map fun x=>x.1.1:=by unfold insS; rw [List.map_map]; rfl
  rw [this];exact h.dis
 ·obtain ⟨y,hy,rfl⟩:=List.mem_map.1 hx
  exact (h.val y hy).2.2.2
theorem tx_ok {ch : List Tapi_Spendable} (h : SpOk ch) (q : Int) {outs : List Tapi_Output} (hl : outs.length≤4) (ho : ∀ o∈outs,0≤o.1∧o.2.length = 4) : TxOk (insS ch q) outs:=by
 obtain ⟨i1,i2,_⟩:=ins_ok h q;have:=h.len;exact ⟨by omega,i2,by omega,ho⟩
theorem wgt_eq {ch : List Tapi_Spendable} (h : SpOk ch) (q : Int) {outs : List Tapi_Output} (hl : outs.length≤4) (ho : ∀ o∈outs,0≤o.1∧o.2.length = 4) : Lbuild_Weight (1,insS ch q,outs,0) ch = some (40 + 161 * ch.length + 52 * outs.length + wtS ch):=by
 obtain ⟨i1,i2,_⟩:=ins_ok h q;have hcl:=h.len;have ht:=tx_ok h q hl ho;have hw:=weight_mk ht;have hb:=bare_mk (outs:=outs) i2;have e:=bweight_eq (t:=mkT (insS ch q) outs) (l:=ch) (by unfold mkT; dsimp only; omega) (by omega);rw [hb,hw,i1,sumW_eq ch _ (by omega) (by omega) fun x hx=>by have:=(h.val x hx).2.1; omega] at e;exact e
/-- the two kinds of plans -/
def planC (ch : List Tapi_Spendable) (q : Int) (o : List Tapi_Output) (s : List Int) (f : Int) : Tapi_Plan:=(mkT (insS ch q) (o++[(valS ch - sumI (o.map Prod.fst) - f,s)]),coS ch,f,(o.length : Int))
def planN (ch : List Tapi_Spendable) (q : Int) (o : List Tapi_Output) : Tapi_Plan:=(mkT (insS ch q) o,coS ch,valS ch - sumI (o.map Prod.fst),-1)
def wtN (ch : List Tapi_Spendable) (o : List Tapi_Output) : Int:=40 + 161 * ch.length + 52 * o.length + wtS ch
theorem make_eq {c : List Tapi_Spendable} {o : List Tapi_Output} {s : List Int} {r q : Int} (hc : SpOk c) (ho : OuOk o) (hs : s = []∨s.length = 4) (hr : 0≤r∧r < 3000) : (∃ p,Lbuild_Make c o s r 0 q = some (p,320))∨∃ ch,ch.Sublist c∧ch≠[]∧sumI (o.map Prod.fst) + feeF (wtN ch o) r≤valS ch ∧
  ((s.length = 4∧300≤valS ch - sumI (o.map Prod.fst) - feeF (wtN ch o) r - feeF 52 r∧Lbuild_Make c o s r 0 q = some (planC ch q o s (feeF (wtN ch o + 52) r),0)) ∨
   ((s = []∨(s.length = 4∧valS ch - sumI (o.map Prod.fst) - feeF (wtN ch o) r - feeF 52 r < 300))∧Lbuild_Make c o s r 0 q = some (planN ch q o,0))):=by
 have hol:=ho.len;have hos:=ou_sum ho;have hs4 : s.length≤4:=by rcases hs with rfl | h <;> simp_all
 have ho0 : ∀ x∈o,0≤x.1∧x.2.length = 4:=fun x hx=>⟨by have:=(ho.val x hx).1; omega,(ho.val x hx).2⟩
 have hpo : Lbuild_paid o = some (sumI (o.map Prod.fst)):=paid_eq (fun x hx=>(ho0 x hx).1) (by omega) (by omega);have h0T : TxOk [] o:=⟨by simp,by simp,by omega,ho0⟩
 have hw0 : weightS (1,[],o,0) = 40 + 52 * o.length:=by
  have:=weight_mk h0T;unfold mkT at this;rw [this];simp
 have hf0:=feeF_nn (w:=40 + 52 * o.length) (r:=r) (by omega) hr.1;have hf1:=feeF_le (w:=40 + 52 * o.length) (r:=r) (by omega) (by omega)
 have hun : Lbuild_Make c o s r 0 q = Lbuild_Make_k1 o o 0 r c q s:=by
  unfold Lbuild_Make;rw [chkA hc ho (by omega) hr,bind_some',if_neg (by simp)];refine runLoop_to (step:=Lbuild_Make_s1 o 0 r c q s) (fun i=>((i : Int),o.take i)) o.length (fun i hi=>?_) ?_
  ·have:=(ho0 _ (List.getElem_mem hi)).2
   simp only [Lbuild_Make_s1];rw [if_pos (by omega),idx_bind hi,Lbytes_Clone,chk_bind (by omega),bind_some',chk_bind (by simp; omega),wi_succ hi (by omega),List.take_succ_eq_append_getElem hi]
  ·simp only [Lbuild_Make_s1]
   rw [if_neg (by omega),List.take_length]
 rw [hun];unfold Lbuild_Make_k1;rw [hpo,bind_some',tx_weight,bind_some',hw0,feeF_eq (by omega) (by omega),bind_some',wi _ (by omega)];rcases choose_eq (t:=sumI (o.map Prod.fst) + feeF (40 + 52 * o.length) r) hc (by omega) hr with he | ⟨ch,h1,h2,h3,he⟩
 ·rw [he,bind_some',if_pos (by simp)]
  exact .inl ⟨_,rfl⟩
 ·rw [he,bind_some',if_neg (by simp)]
  have hch:=ch_sp hc h1;have hcl:=hch.len;have hvb:=val_bnd hch;have hwb:=wt_bnd hch;obtain ⟨i1,i2,i3,i4⟩:=ins_ok hch q
  have hval0 : ∀ v∈ch.map (fun x=>x.1.2.1.1),0≤v:=fun v hv=>by
   obtain ⟨x,hx,rfl⟩:=List.mem_map.1 hv;exact (hch.val x hx).1.1
  have hfee : sumI (o.map Prod.fst) + feeF (wtN ch o) r≤valS ch:=by
   have e1:=eff_sum r ch (fun x hx=>(hch.val x hx).2.1.1) hr.1;have e2:=feeF_add (40 + 52 * o.length) (161 * ch.length + wtS ch) r;have e3 : wtN ch o = (40 + 52 * o.length) + (161 * ch.length + wtS ch):=by unfold wtN; omega
   rw [e3];omega
  refine .inr ⟨ch,h1,h2,hfee,?_⟩
  have hl2 : runLoop (Lbuild_Make_s2 (ch,0) q o 0 s o r) (0,0,[],[]) = Lbuild_Make_k2 (insS ch q) o 0 (ch,0) s o r (valS ch) (coS ch):=by
   have:=runLoop_to (step:=Lbuild_Make_s2 (ch,0) q o 0 s o r) (fun i=>(sumI ((ch.map fun x=>x.1.2.1.1).take i),(i : Int),(insS ch q).take i,(coS ch).take i)) ch.length (x:=Lbuild_Make_k2 (insS ch q) o 0 (ch,0) s o r (valS ch) (coS ch)) (fun i hi=>by
    have hi2 : i < (ch.map fun x=>x.1.2.1.1).length:=by simpa using hi
    have hi3 : i < (insS ch q).length:=by rw [i1]; exact hi
    have hi4 : i < (coS ch).length:=by unfold coS; simpa using hi
    have g1:=sumI_take hi2;have g2:=sumI_mono hval0 (i + 1);have g3:=sumI_pos (l:=(ch.map fun x=>x.1.2.1.1).take i) fun v hv=>hval0 v (List.mem_of_mem_take hv)
    have g5 : (ch.map fun x=>x.1.2.1.1)[i] = (ch[i]).1.2.1.1:=by simp
    have g6:=(hch.val _ (List.getElem_mem hi)).1;have g7:=(hch.val _ (List.getElem_mem hi)).2.2.1;have g8 : valS ch = sumI (ch.map fun x=>x.1.2.1.1):=rfl;rw [g5] at g1;simp only [Lbuild_Make_s2];rw [if_pos (by omega),idx_bind hi,Lbytes_Clone,chk_bind (by omega),bind_some',chk_bind (by rw [List.length_take]; omega),chk_bind (by rw [List.length_take]; omega),wi_succ hi (by omega),wi _ (by omega),g1,List.take_succ_eq_append_getElem hi3,List.take_succ_eq_append_getElem hi4];simp [insS,coS]) (by
    simp only [Lbuild_Make_s2];have e1 : (insS ch q).take ch.length = insS ch q:=List.take_of_length_le (by omega);have e2 : (coS ch).take ch.length = coS ch:=List.take_of_length_le (by unfold coS; simp);have e3 : (ch.map fun x=>x.1.2.1.1).take ch.length = ch.map fun x=>x.1.2.1.1:=List.take_of_length_le (by simp)
    rw [if_neg (by omega),e1,e2,e3]
    rfl)
   simpa [sumI] using this
  rw [hl2];have hw:=wgt_eq hch q (by omega) ho0;have hwn : wtN ch o = 40 + 161 * ch.length + 52 * o.length + wtS ch:=rfl;rw [← hwn] at hw;have hck : checkS (mkT (insS ch q) o) = 0:=check_mk (tx_ok hch q (by omega) ho0) (fun e=>h2 (by rw [e] at i1; exact List.length_eq_zero_iff.1 i1.symm)) ho.ne (by omega) i3 i4;have fw0:=feeF_nn (w:=wtN ch o) (r:=r) (by omega) hr.1;have fw1:=feeF_le (w:=wtN ch o) (r:=r) (by omega) (by omega);have f50:=feeF_nn (w:=52) (r:=r) (by omega) hr.1;have f51:=feeF_le (w:=52) (r:=r) (by omega) (by omega)
  have hk3 : ∀ (outs : List Tapi_Output) (k : Int),outs.length≤10→(∀ x∈outs,0≤x.1)→sumI (outs.map Prod.fst)≤1000000→Lbuild_Make_k3 (valS ch) (insS ch q) 0 (coS ch) outs k = some ((mkT (insS ch q) outs,coS ch,valS ch - sumI (outs.map Prod.fst),k),0):=by
   intro outs k h5 h6 h7
   have h8:=sumI_pos (l:=outs.map Prod.fst) fun v hv=>by
    obtain ⟨y,hy,rfl⟩:=List.mem_map.1 hv;exact h6 y hy
   unfold Lbuild_Make_k3;rw [if_neg (by omega),paid_eq h6 (by omega) (by omega),bind_some',wi _ (by omega)];rfl
  unfold Lbuild_Make_k2;rw [hw,bind_some',wi (9 + _) (by omega),wi (4 * _) (by omega),wi (wtN ch o + _) (by omega),if_neg (by omega),tx_check,bind_some',if_neg (by rw [show ((1,insS ch q,o,0) : Tapi_Tx) = mkT (insS ch q) o from rfl,hck]; simp),hpo,bind_some'];rcases hs with rfl | hs
  ·refine .inr ⟨.inl rfl,?_⟩
   rw [if_neg (by simp),bind_some',if_neg (by simp),hk3 o _ (by omega) (fun x hx=>(ho0 x hx).1) (by omega)];rfl
  ·have h52 : 4 * (9 + (s.length : Int)) = 52:=by omega
   rw [if_pos (by omega),h52,feeF_eq (by omega) (by omega),bind_some',feeF_eq (by omega) (by omega),bind_some',bind_some',wi (valS ch - _) (by omega),wi (valS ch - _ - feeF (wtN ch o) r) (by omega),wi _ (by omega)];by_cases hd : 300≤valS ch - sumI (o.map Prod.fst) - feeF (wtN ch o) r - feeF 52 r
   ·refine .inl ⟨hs,hd,?_⟩
    have ho1 : ∀ v : Int,0≤v→∀ x∈o++[(v,s)],0≤x.1∧x.2.length = 4:=fun v hv=>mem_app1 ho0 ⟨hv,hs⟩
    have hw2:=wgt_eq hch q (outs:=o++[((0 : Int),s)]) (by simp; omega) (ho1 0 (by omega));have hwe : (40 + 161 * (ch.length : Int) + 52 * ((o++[((0 : Int),s)]).length : Nat) + wtS ch : Int) = wtN ch o + 52:=by rw [hwn,List.length_append,List.length_singleton]; omega
    rw [hwe] at hw2;have fa:=feeF_add (wtN ch o) 52 r;have fb:=feeF_nn (w:=wtN ch o + 52) (r:=r) (by omega) hr.1;obtain ⟨v,hv⟩ : ∃ v,valS ch - sumI (o.map Prod.fst) - feeF (wtN ch o + 52) r = v:=⟨_,rfl⟩
    have hv0 : 300≤v:=by omega
    have hset : (o++[((0 : Int),s)]).set o.length (v,s) = o++[(v,s)]:=by
     rw [List.set_append_right _ _ (Nat.le_refl _),Nat.sub_self];rfl
    have hsum : sumI ((o++[(v,s)]).map Prod.fst) = sumI (o.map Prod.fst) + v:=by
     rw [List.map_append,sumI_app];simp [sumI]
    have hck2 : checkS (mkT (insS ch q) (o++[(v,s)])) = 0:=check_mk (tx_ok hch q (by simp; omega) (ho1 v (by omega))) (fun e=>h2 (by rw [e] at i1; exact List.length_eq_zero_iff.1 i1.symm)) (by simp) (by rw [hsum]; omega) i3 i4;rw [if_pos ⟨by omega,by simpa using hd⟩,Lbytes_Clone,chk_bind (by omega),bind_some',chk_bind (by omega),hw2,bind_some',feeF_eq (by omega) (by omega),bind_some',show o.length + 1 = (o++[((0 : Int),s)]).length by simp,inA_bind (by simp),get_bind (by simp),List.getElem_append_right (Nat.le_refl _)];simp only [Nat.sub_self,List.getElem_cons_zero];rw [wi _ (by omega),hv,hset,tx_check,bind_some',if_neg (by rw [show ((1,insS ch q,o++[(v,s)],0) : Tapi_Tx) = mkT (insS ch q) (o++[(v,s)]) from rfl,hck2]; simp),hk3 _ _ (by simp; omega) (fun x hx=>(ho1 v (by omega) x hx).1) (by rw [hsum]; omega),hsum];unfold planC;rw [hv,show valS ch - (sumI (o.map Prod.fst) + v) = feeF (wtN ch o + 52) r by omega]
   ·refine .inr ⟨.inr ⟨hs,by omega⟩,?_⟩
    rw [if_neg (by simp [hd]),hk3 o _ (by omega) (fun x hx=>(ho0 x hx).1) (by omega)];rfl
end Go.Lc
end
section
/- Law 34: the plans that are made are valid,pay what they should,and have the fee for their weight. -/
namespace Go.Lc
open Go.RowKit
open Go.Av
set_option linter.unusedVariables false
set_option linter.unusedSimpArgs false
set_option maxRecDepth 100000

def sameC (x : Tapi_Spendable) (e : Tapi_Coin) : Prop:=(x.1.1.1 = e.1.1∧x.1.1.2 = e.1.2)∧x.1.2.1.1 = e.2.1.1
theorem used_one [∀ x e,Decidable (sameC x e)] : ∀ {c : List Tapi_Spendable},(c.map fun x=>x.1.1).Nodup→∀ {x : Tapi_Spendable},x∈c→c.filter (fun y=>decide (sameC y x.1)) = [x]:=by
 intro c;induction c with
 | nil=>intro _ x hx; cases hx
 | cons a c ih =>
  intro hd x hx;rw [List.map_cons,List.nodup_cons] at hd;have hself : sameC x x.1:=⟨⟨rfl,rfl⟩,rfl⟩
  rcases List.mem_cons.1 hx with rfl | hx
  ·rw [List.filter_cons,if_pos (by simpa using hself)]
   congr 1
   refine List.filter_eq_nil_iff.2 fun y hy h=>?_
   have h:=of_decide_eq_true h;exact hd.1 (List.mem_map.2 ⟨y,hy,Prod.ext h.1.1 h.1.2⟩)
  ·rw [List.filter_cons,if_neg,ih hd.2 hx]
   intro h;have h:=of_decide_eq_true h;exact hd.1 (List.mem_map.2 ⟨x,hx,(Prod.ext h.1.1 h.1.2).symm⟩)
theorem plan_facts {ch : List Tapi_Spendable} {outs : List Tapi_Output} {q k : Int} (hch : SpOk ch) (hne : ch≠[]) (hl : outs.length≤4) (h0 : outs≠[]) (ho : ∀ o∈outs,0≤o.1∧o.2.length = 4) (hle : sumI (outs.map Prod.fst)≤valS ch) (hk : -1≤k∧k < outs.length) :
  Lbuild_Valid (mkT (insS ch q) outs,coS ch,valS ch - sumI (outs.map Prod.fst),k) = some true∧Lref10_Fee (mkT (insS ch q) outs) (coS ch) = some (valS ch - sumI (outs.map Prod.fst),0):=by
 obtain ⟨i1,i2,i3,i4⟩:=ins_ok hch q;have hvb:=val_bnd hch;have hck : checkS (mkT (insS ch q) outs) = 0:=check_mk (tx_ok hch q hl ho) (fun e=>hne (by rw [e] at i1; exact List.length_eq_zero_iff.1 i1.symm)) h0 (by omega) i3 i4;have hcv : coinV (coS ch) = ch.map fun x=>x.1.2.1.1:=by unfold coinV coS; rw [List.map_map]; rfl
 have hcs : sumI (coinV (coS ch)) = valS ch:=by rw [hcv]; rfl
 have hfee : Lspend_Fee (mkT (insS ch q) outs) (coS ch) = some (valS ch - sumI (outs.map Prod.fst),0):=by
  have:=fee_val (t:=mkT (insS ch q) outs) (l:=coS ch) hck (by
   unfold coS ptsS mkT insS;rw [List.map_map,List.map_map];rfl) (by
   unfold sumBad;rw [hcs,hcv];rintro (⟨v,hv,h⟩ | h)
   ·obtain ⟨x,hx,rfl⟩:=List.mem_map.1 hv
    have:=(hch.val x hx).1;omega
   ·omega) (by rw [hcs]; exact hle)
  rw [this,hcs];rfl
 refine ⟨valid_of hck (cb_mk i4) i2 hk.1 hk.2 hfee,?_⟩;obtain ⟨r,r1,r2⟩:=fee_both (mkT (insS ch q) outs) (coS ch);rw [r2,← r1,hfee]
theorem bal_s1 {c : List Tapi_Spendable} {d : Tlightclientmill_Deck} {ch : List Tapi_Spendable} {t : Tapi_Tx} {f k e : Int} {y4 : (List Tapi_Output)×Tlightclientmill_Deck} {y5 : Int} {y6 : List Int} (hc : SpOk c) (hs : ch.Sublist c) : runLoop (Llaw34_BuildBalances_s1 ((t,coS ch,f,k),e) (c,d) y4 y5 y6) (0,[]) = Llaw34_BuildBalances_k1 y4 ((t,coS ch,f,k),e) ch y5 y6:=by
 classical
 have hcl:=hc.len;have hchl:=hs.length_le;have hco : (coS ch).length = ch.length:=by simp [coS]
 refine runLoop_to (step:=Llaw34_BuildBalances_s1 ((t,coS ch,f,k),e) (c,d) y4 y5 y6) (fun i=>((i : Int),ch.take i)) ch.length (fun i hi=>?_) ?_
 ·simp only [Llaw34_BuildBalances_s1]
  rw [if_pos (by omega)];have hi4 : i < (coS ch).length:=by omega
  have hci : (coS ch)[i] = (ch[i]).1:=by simp [coS]
  have hone:=used_one hc.dis (hs.subset (List.getElem_mem hi))
  have:=runLoop_to (step:=Llaw34_BuildBalances_s3 (c,d) ((t,coS ch,f,k),e) (i : Int)) (fun j=>((j : Int),ch.take i++(c.take j).filter (fun y=>decide (sameC y (ch[i]).1)))) c.length (x:=some (.inl (((i + 1 : Nat) : Int),ch.take (i + 1)))) (fun j hj=>by
   have hfl : ((c.take j).filter (fun y=>decide (sameC y (ch[i]).1))).length≤8:=by
    have h1:=List.length_filter_le (fun y=>decide (sameC y (ch[i]).1)) (c.take j);have h2 : (c.take j).length≤c.length:=by simp; omega
    omega
   simp only [Llaw34_BuildBalances_s3];rw [if_pos (by omega),inA_bind hj,get_bind hj,idx_bind hi4,hci,filter_take hj];unfold Llaw34_BuildBalances_k4;by_cases h : sameC c[j] (ch[i]).1
   ·have h' : ((c[j]).1.1.1 = (ch[i]).1.1.1∧(c[j]).1.1.2 = (ch[i]).1.1.2)∧(c[j]).1.2.1.1 = (ch[i]).1.2.1.1:=h
    rw [if_pos h',chk_bind (by rw [List.length_append,List.length_take]; omega),wi_succ hj (by omega),if_pos (by simpa using h),List.append_assoc]
   ·have h' : ¬ (((c[j]).1.1.1 = (ch[i]).1.1.1∧(c[j]).1.1.2 = (ch[i]).1.1.2)∧(c[j]).1.2.1.1 = (ch[i]).1.2.1.1):=h
    rw [if_neg h',wi_succ hj (by omega),if_neg (by simpa using h),List.append_nil]) (by
   simp only [Llaw34_BuildBalances_s3];rw [if_neg (by omega),List.take_length,hone,← List.take_succ_eq_append_getElem hi];unfold Llaw34_BuildBalances_k3
   rw [wi_succ hi (by omega)])
  simpa using this
 ·simp only [Llaw34_BuildBalances_s1]
  rw [if_neg (by omega),List.take_length]
theorem bal_k1 {o : List Tapi_Output} {d : Tlightclientmill_Deck} {p : Tapi_Plan×Int} {used : List Tapi_Spendable} {y5 : Int} {y6 : List Int} {more : List Tapi_Output} (hl : o.length≤1000) (ho : p.1.1.2.2.1 = o++more) : Llaw34_BuildBalances_k1 (o,d) p used y5 y6 = Llaw34_BuildBalances_k2 p used y5 (o,d) y6:=by
 unfold Llaw34_BuildBalances_k1;refine runLoop_to (step:=Llaw34_BuildBalances_s2 (o,d) p used y5 y6) (fun i=>(i : Int)) o.length (fun i hi=>?_) ?_
 ·have hi2 : i < (o++more).length:=by rw [List.length_append]; omega
  simp only [Llaw34_BuildBalances_s2];rw [if_pos (by omega),inA_bind hi,get_bind hi,ho,idx_bind hi2,List.getElem_append_left hi,rout_self,bind_some',if_neg (by simp),wi_succ hi (by omega)]
 ·simp only [Llaw34_BuildBalances_s2]
  rw [if_neg (by omega)]
theorem balance {c : List Tapi_Spendable} {o : List Tapi_Output} {s : List Int} {r q : Int} {d3 d4 : Tlightclientmill_Deck} (hc : SpOk c) (ho : OuOk o) (hs : s = []∨s.length = 4) (hr : 0≤r∧r < 3000) : ((Lbuild_Make c o s r 0 q).bind fun y7=>(if ¬ (y7.2 = 0) then some (decide (y7.2 = 320)) else (Lbuild_Valid y7.1).bind fun y8=>(if ((¬ (y8 = true)∨(y7.1.1.2.2.1.length : Int) < (o.length : Int))∨¬ ((y7.1.2.1.length : Int) = (y7.1.1.2.1.length : Int))) then some (false) else runLoop (Llaw34_BuildBalances_s1 y7 (c,d3) (o,d4) r s) (0,[])))) = some true:=by
 have hol:=ho.len;have hos:=ou_sum ho;have ho0 : ∀ x∈o,0≤x.1∧x.2.length = 4:=fun x hx=>⟨by have:=(ho.val x hx).1; omega,(ho.val x hx).2⟩
 rcases make_eq (q:=q) hc ho hs hr with ⟨p,he⟩ | ⟨ch,h1,h2,h3,hh⟩
 ·rw [he,bind_some',if_pos (by simp)]
  rfl
 ·have hch:=ch_sp hc h1
  have hcl:=hch.len;have hvb:=val_bnd hch;have hwb:=wt_bnd hch;have hwn : wtN ch o = 40 + 161 * ch.length + 52 * o.length + wtS ch:=rfl;have fw0:=feeF_nn (w:=wtN ch o) (r:=r) (by omega) hr.1;have fw1:=feeF_le (w:=wtN ch o) (r:=r) (by omega) (by omega);have f50:=feeF_nn (w:=52) (r:=r) (by omega) hr.1;have f51:=feeF_le (w:=52) (r:=r) (by omega) (by omega);obtain ⟨i1,i2,i3,i4⟩:=ins_ok hch q;have hco : (coS ch).length = ch.length:=by simp [coS]
  rcases hh with ⟨s4,g1,g2⟩ | ⟨g1,g2⟩
  ·rw [g2,bind_some',if_neg (by simp)]
   have fa:=feeF_add (wtN ch o) 52 r;have fb:=feeF_nn (w:=wtN ch o + 52) (r:=r) (by omega) hr.1;obtain ⟨v,hv⟩ : ∃ v,valS ch - sumI (o.map Prod.fst) - feeF (wtN ch o + 52) r = v:=⟨_,rfl⟩
   have hv0 : 300≤v:=by omega
   have ho1 : ∀ x∈o++[(v,s)],0≤x.1∧x.2.length = 4:=mem_app1 ho0 ⟨by omega,s4⟩
   have hsum : sumI ((o++[(v,s)]).map Prod.fst) = sumI (o.map Prod.fst) + v:=by
    rw [List.map_append,sumI_app];simp [sumI]
   have hlen : (o++[(v,s)]).length = o.length + 1:=by simp
   obtain ⟨p1,p2⟩:=plan_facts (q:=q) (k:=(o.length : Int)) hch h2 (by omega) (by simp) ho1 (by rw [hsum]; omega) (by omega);have hff : valS ch - sumI ((o++[(v,s)]).map Prod.fst) = feeF (wtN ch o + 52) r:=by rw [hsum]; omega
   rw [hff] at p1 p2;unfold planC;rw [hv];dsimp only;rw [p1,bind_some',if_neg (by unfold mkT; dsimp only; simp; omega),bal_s1 hc h1,bal_k1 (more:=[(v,s)]) (by omega) rfl];unfold Llaw34_BuildBalances_k2;dsimp only;have hw:=wgt_eq hch q (outs:=o++[(v,s)]) (by omega) ho1;have hwe : (40 + 161 * (ch.length : Int) + 52 * ((o++[(v,s)]).length : Nat) + wtS ch : Int) = wtN ch o + 52:=by rw [hwn,hlen]; omega
   rw [hwe] at hw;rw [p2,bind_some',if_neg (by rw [hco]; simp),show mkT (insS ch q) (o++[(v,s)]) = (1,insS ch q,o++[(v,s)],0) from rfl,hw,bind_some',feeF_eq (by omega) (by omega),bind_some',if_pos (by omega)];dsimp only;rw [hlen,wi_succ (n:=1000) (by omega) (by omega),if_pos ⟨⟨rfl,rfl⟩,rfl⟩,idx_bind (by omega),List.getElem_append_right (Nat.le_refl _)];simp [hv0]
  ·rw [g2,bind_some',if_neg (by simp)]
   obtain ⟨p1,p2⟩:=plan_facts (q:=q) (k:=-1) hch h2 (by omega) ho.ne ho0 (by omega) (by omega);unfold planN;dsimp only;rw [p1,bind_some',if_neg (by unfold mkT; dsimp only; simp; omega),bal_s1 hc h1,bal_k1 (more:=[]) (by omega) (by unfold mkT; simp)];unfold Llaw34_BuildBalances_k2;dsimp only;have hw:=wgt_eq hch q (by omega) ho0;rw [← hwn] at hw;rw [p2,bind_some',if_neg (by rw [hco]; simp),show mkT (insS ch q) o = (1,insS ch q,o,0) from rfl,hw,bind_some',feeF_eq (by omega) (by omega),bind_some',if_neg (by omega)];dsimp only;rw [if_neg (by simp; omega)];rcases g1 with rfl | ⟨s4,g1⟩
   ·simp
   ·rw [if_neg (by omega),wi (9 + _) (by omega),wi (4 * _) (by omega),show 4 * (9 + (s.length : Int)) = 52 by omega,feeF_eq (by omega) (by omega),bind_some',bind_some',wi (feeF (wtN ch o) r + 300) (by omega),wi _ (by omega),decide_eq_true (by omega : valS ch - sumI (o.map Prod.fst) < feeF (wtN ch o) r + 300 + feeF 52 r),Bool.or_true]

/-! what the mill makes -/
def SpI (n : Nat) (st : Int×Tlightclientmill_Deck×(List Tapi_Spendable)) : Prop:=st.1 = (n : Int)∧DeckOk st.2.1∧st.2.2.length + n≤8∧SpOk st.2.2∧∀ x∈st.2.2,∃ j : Int,(n : Int) < j∧j≤8∧x.1.1.1 = (zA 32).put 0 (IntKind.u8.wrap j)
theorem u8_small {j : Int} (h : 0≤j∧j≤255) : IntKind.u8.wrap j = j:=by
 have : IntKind.u8.wrap j = j % 2 ^ 8:=by simp [IntKind.wrap,IntKind.signed,IntKind.bits]
 rw [this,show (2 : Int) ^ 8 = 256 from rfl];omega
theorem u32_small {j : Int} (h : 0≤j∧j≤255) : IntKind.u32.wrap j = j:=by
 have : IntKind.u32.wrap j = j % 2 ^ 32:=by simp [IntKind.wrap,IntKind.signed,IntKind.bits]
 rw [this,show (2 : Int) ^ 32 = 4294967296 from rfl];omega
theorem put0_inj {i j : Int} (hi : 0≤i∧i≤255) (hj : 0≤j∧j≤255) (h : (zA 32).put 0 (IntKind.u8.wrap i) = (zA 32).put 0 (IntKind.u8.wrap j)) : i = j:=by
 have:=congrArg (fun a=>Arr.at a 0) h;simp only [Arr.at_put (zA 32) (i:=0) (by omega)] at this
 rwa [u8_small hi,u8_small hj] at this
theorem spendables_ok {d : Tlightclientmill_Deck} (h : DeckOk d) : Tot (Lmill_Spendables d 8) fun r=>SpOk r.1∧DeckOk r.2:=by
 unfold Lmill_Spendables;rw [wi _ (by omega)];refine (next_tot h (by omega) (by omega)).bind fun y1 h1=>?_
 refine tot_loop (I:=SpI) (n:=y1.1.toNat) ?_ ⟨by dsimp only; omega,h1.2,by simp; omega,⟨by simp,by simp,by simp⟩,by simp⟩;rintro m ⟨k,d1,l⟩ ⟨hk,hd,hl,hsp,hj⟩
 dsimp only at hk hd hl hsp hj;simp only [Lmill_Spendables_s1];refine tot_ite (fun hc=>?_) (fun hc=>?_)
 ·refine (next_tot hd (by omega) (by omega)).bind fun y2 h2=>(next_tot h2.2 (by omega) (by omega)).bind fun y3 h3=>(next_tot h3.2 (by omega) (by omega)).bind fun y4 h4=>?_
  rw [script_eq,bind_some'];refine (range_tot h4.2 (by omega) (by omega) (by omega)).bind fun y5 h5=>(next_tot h5.2 (by omega) (by omega)).bind fun y6 h6=>?_
  have hidx : IntKind.u32.wrap y2.1 = y2.1:=u32_small (by omega);refine tot_chk (by omega) (tot_some ⟨m - 1,by omega,?_,h6.2,?_,⟨?_,?_,?_⟩,?_⟩)
  ·dsimp only
   rw [wi _ (by omega)];omega
  ·simp only [List.length_append,List.length_cons,List.length_nil]
   omega
  ·simp only [List.length_append,List.length_cons,List.length_nil]
   omega
  ·refine mem_app1 hsp.val ⟨h3.1,h6.1,by simp,fun e=>?_⟩
   have:=congrArg Prod.snd e;dsimp only at this;rw [hidx] at this;omega
  ·rw [List.map_append,List.map_singleton,List.nodup_append]
   refine ⟨hsp.dis,by simp,fun a ha b hb e=>?_⟩;obtain ⟨x,hx,rfl⟩:=List.mem_map.1 ha;obtain ⟨j,j1,j2,j3⟩:=hj x hx;rw [List.mem_singleton] at hb;subst hb;have e1:=congrArg Prod.fst e;dsimp only at e1;rw [j3] at e1;have:=put0_inj (by omega) (by omega) e1;omega
  ·refine mem_app1 (fun x hx=>?_) ⟨k,by omega,by omega,rfl⟩
   obtain ⟨j,j1,j2,j3⟩:=hj x hx;exact ⟨j,by omega,j2,j3⟩
 ·exact Tot.out (tot_some ⟨hsp,hd⟩)
def OuI (n0 : Nat) (n : Nat) (st : Int×Tlightclientmill_Deck×(List Tapi_Output)) : Prop:=st.1 = (n : Int)∧DeckOk st.2.1∧st.2.2.length + n = n0∧∀ x∈st.2.2,(300≤x.1∧x.1 < 2300)∧x.2.length = 4
theorem outputs_ok {d : Tlightclientmill_Deck} (h : DeckOk d) : Tot (Lmill_Outputs d 3) fun r=>OuOk r.1∧DeckOk r.2:=by
 unfold Lmill_Outputs;refine (range_tot h (by omega) (by omega) (by omega)).bind fun y1 h1=>?_
 refine tot_loop (I:=OuI y1.1.toNat) (n:=y1.1.toNat) ?_ ⟨by dsimp only; omega,h1.2,by simp,by simp⟩;rintro m ⟨k,d1,l⟩ ⟨hk,hd,hl,hv⟩
 dsimp only at hk hd hl hv;simp only [Lmill_Outputs_s1];refine tot_ite (fun hc=>?_) (fun hc=>?_)
 ·refine (next_tot hd (by omega) (by omega)).bind fun y2 h2=>(next_tot h2.2 (by omega) (by omega)).bind fun y3 h3=>?_
  rw [script_eq,bind_some'];refine tot_chk (by omega) (tot_some ⟨m - 1,by omega,?_,h3.2,?_,?_⟩)
  ·dsimp only
   rw [wi _ (by omega)];omega
  ·simp only [List.length_append,List.length_cons,List.length_nil]
   omega
  ·refine mem_app1 hv ⟨?_,by simp⟩
   dsimp only;rw [wi _ (by omega)];omega
 ·refine Tot.out ?_
  unfold Lmill_Outputs_k1;exact tot_some ⟨⟨fun e=>by subst e; simp at hl; omega,by dsimp only; omega,hv⟩,hd⟩
theorem change_ok (a : Int) : Tot (Llaw34_change a) fun s=>s = []∨s.length = 4:=by
 unfold Llaw34_change;refine (mod_tot' a (n:=3) (by omega) (by omega)).bind fun y1 _=>tot_ite (fun _=>tot_some (.inl rfl)) fun _=>?_
 refine (mod_tot' a (n:=6) (by omega) (by omega)).bind fun y2 _=>?_
 rw [script_eq,bind_some'];exact tot_some (.inr rfl)
theorem buildBalances (a0 : List Int) (a1 a2 a3 : Int) (h : a0.length≤9223372036854775807) : Llaw34_BuildBalances a0 a1 a2 a3 = some true:=by
 unfold Llaw34_BuildBalances;rw [sane34,bind_some',if_neg (by simp)];unfold Lmill_New;rw [bind_some'];have hd : DeckOk (a0,0):=⟨by simp,by simp,h⟩
 obtain ⟨y3,e3,h3,h3'⟩:=spendables_ok hd;rw [e3,bind_some'];obtain ⟨y4,e4,h4,h4'⟩:=outputs_ok h3';rw [e4,bind_some'];obtain ⟨y5,e5,h5⟩:=mod_tot' a1 (n:=3000) (by omega) (by omega);rw [e5,bind_some'];obtain ⟨y6,e6,h6⟩:=change_ok a2;rw [e6,bind_some'];exact balance (d3:=y3.2) (d4:=y4.2) h3 h4 h6 h5
end Go.Lc
end
