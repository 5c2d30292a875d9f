import Derived.Test.YthpkpciceodioaaGreatDoorLcG5
import Derived.Test.YthpkpciceodioaaGreatDoorLcG6
import Derived.Test.YthpkpciceodioaaGreatDoorLcG3
namespace Go.Lc
open Go.RowKit
open Go.Av
set_option linter.unusedVariables false
set_option linter.unusedSimpArgs false
section
set_option maxRecDepth 100000
theorem Zq8 (p:Nat):∀ (l:List Int) (n:Nat) (s:Int) (B:List Bool),n≤1600000→ZhT p n s l=some B→n+B.length≤1600000
 | [],n,s,B,hn,h=>by
  simp only[ZhT,Option.some.injEq] at h;subst h;simpa using hn
 | v :: l,n,s,B,hn,h=>by
  rw[ZhT] at h;split at h
  ·cases h
  ·rename_i hl
   obtain⟨B2,h2,rfl⟩:=Option.map_eq_some_iff.1 h;have:=Zq8 p l _ v B2 (by omega) h2;rw[List.length_append,Zhl];omega
theorem Zy6 {k:Arr 2}{o:List (List Int)}{p m:Int}{r:Tapi_Filter×Int}(ho:o.length≤4096) (hp:0≤p∧p≤32) (hm:1≤m∧m≤1099511627776) (h:BR k o p m r):r=((0,[]),4)∨(r.2=0∧Byt r.1.2∧r.1.1=((dfs [] o).length:Int)∧DR r.1 p=(srt ((dfs [] o).map (ZeJ k r.1.1 m)),0)):=by
 have hby:=Zx9 h;have hdl:=dfs_len o [];simp only[List.length_nil,Nat.zero_add] at hdl;rcases h with ⟨a1,_⟩ | ⟨_,a2,_⟩ | ⟨_,_,h⟩
 ·omega
 ·omega
 ·rcases h with ⟨a1,_⟩ | ⟨_,a2,_⟩ | ⟨_,_,_,a4,_⟩ | ⟨h1,_,_,h4,h5⟩
  ·rw[Zam] at a1; simp at a1; omega
  ·omega
  ·exact absurd (Zr0 _) a4
  ·cases hB:ZhT p.toNat 0 0 (srt ((dfs [] o).map (ZeJ k ((dfs [] o).length:Int) m))) with
   | none=>rw[hB] at h5; exact .inl h5
   | some B =>
    rw[hB] at h5;obtain⟨y,rfl,hw⟩:=h5;have hl:(srt ((dfs [] o).map (ZeJ k ((dfs [] o).length:Int) m))).length=(dfs [] o).length:=by rw[Zam]; simp
    obtain⟨q,rfl⟩:∃ q:Nat,p=(q:Int):=⟨p.toNat,by omega⟩
    rw[show((q:Int)).toNat=q by omega] at hB;have:=ZvN h1 (by omega) (ZoW (ZoV _ _ _ _)) h4 hB (by have:=Zq8 q _ 0 0 B (by omega) hB; omega) hw;refine .inr ⟨rfl,hby,?_,?_⟩
    ·simp only[hl]
    ·simp only
     rw[this,hl]
theorem ZuB {k:Arr 2}{f:Tapi_Filter}{l:List (List Int)}{p m:Int}{L:List Int}(hl:l.length≤4096) (hf:0≤f.1∧f.1≤4096) (hm:1≤m∧m≤1099511627776) (hd:DR f p=(L,0)):MR k f l p m=(l.any fun x=>decide (ZeJ k f.1 m x∈L),0):=by
 have hv:VR k l f.1 m=(ZhU [] (srt (l.map (ZeJ k f.1 m))),0):=by
  unfold VR;rw[if_neg (by omega),if_neg (by omega)]
 unfold MR;rw[hd,hv];simp only[if_true]
 congr 1
 rw[Bool.eq_iff_iff];simp only[Zos,List.any_eq_true,decide_eq_true_eq,adjF_mem,List.not_mem_nil,false_or];constructor
 ·rintro⟨v,hv,hL⟩
  obtain⟨x,hx,rfl⟩:=List.mem_map.1 ((ZkS _).mem_iff.1 hv);exact⟨x,hx,hL⟩
 ·rintro⟨x,hx,hL⟩
  exact⟨_,(ZkS _).mem_iff.2 (List.mem_map_of_mem hx),hL⟩
end
section
set_option maxRecDepth 100000
theorem Zth {x:Int}(h0:0≤x) (h1:x≤18446744073709551615):bits .and .u64 x 4294967295=x % 4294967296:=by
 obtain⟨n,rfl⟩:=Int.eq_ofNat_of_zero_le h0;show IntKind.u64.wrap ((BitVec.ofInt 64 (n:Int) &&& BitVec.ofInt 64 4294967295).toNat:Int)=_
 rw[BitVec.toNat_and]
 have e1:(BitVec.ofInt 64 (n:Int)).toNat=n:=by
  simp only[BitVec.toNat_ofInt];omega
 have e2:(BitVec.ofInt 64 4294967295).toNat=2 ^ 32-1:=by decide
 rw[e1,e2,Nat.and_two_pow_sub_one_eq_mod,Zoo (by omega)];omega
theorem Zyc {h y:Int}(hh:0≤h∧h≤18446744073709551615) (hy:0≤y∧y≤4294967295):scl h y≤y:=by
 unfold scl XJ;simp only[Option.map_some,Option.getD_some];have f1:h.fdiv 4294967296=h / 4294967296:=by rw[Int.fdiv_eq_ediv_of_nonneg _ (by omega)]
 have f2:y.fdiv 4294967296=0:=by rw[Int.fdiv_eq_ediv_of_nonneg _ (by omega)]; omega
 have f3:bits .and .u64 y 4294967295=y:=by rw[Zth hy.1 (by omega)]; omega
 rw[f1,f2,f3,Zth hh.1 hh.2];have ha:0≤h / 4294967296∧h / 4294967296≤4294967295:=by omega
 have hb:0≤h % 4294967296∧h % 4294967296≤4294967295:=by omega
 generalize h / 4294967296=a at ha ⊢;generalize h % 4294967296=b at hb ⊢;have p1:0≤a * y:=Int.mul_nonneg ha.1 hy.1;have p2:a * y≤4294967295 * y:=Int.mul_le_mul_of_nonneg_right ha.2 hy.1;have p3:0≤b * y:=Int.mul_nonneg hb.1 hy.1;have p4:b * y≤4294967295 * y:=Int.mul_le_mul_of_nonneg_right hb.2 hy.1;generalize a * y=A at p1 p2 ⊢;generalize b * y=B at p3 p4 ⊢;rw[Int.mul_zero,Int.mul_zero,wu 0 (by omega),wu B (by omega),wu A (by omega)];have f4:B.fdiv 4294967296=B / 4294967296:=by rw[Int.fdiv_eq_ediv_of_nonneg _ (by omega)]
 rw[f4,wu (A+B / 4294967296) (by omega),Zth (by omega) (by omega)];have f5:(A+B / 4294967296).fdiv 4294967296=(A+B / 4294967296) / 4294967296:=by rw[Int.fdiv_eq_ediv_of_nonneg _ (by omega)]
 rw[f5,Int.add_zero,Int.zero_add,wu ((A+B / 4294967296) % 4294967296) (by omega)];have f6:((A+B / 4294967296) % 4294967296).fdiv 4294967296=0:=by rw[Int.fdiv_eq_ediv_of_nonneg _ (by omega)]; omega
 rw[f6,wu ((A+B / 4294967296) / 4294967296) (by omega),Int.add_zero,wu ((A+B / 4294967296) / 4294967296) (by omega)];omega
theorem Zti (k:Arr 2) (l:List Int):0≤Zs4 k l∧Zs4 k l≤18446744073709551615:=Zoq _ _ _ _
theorem ZpK (p:Nat) (V:Int):∀ (l:List Int) (n:Nat) (s:Int),Zop s l→(∀ x∈l,x≤V)→0≤s→(V-s) / 2 ^ p≤65536→(n:Int)+(V-s) / 2 ^ p+l.length * (1+p)≤1600000→∃ B,ZhT p n s l=some B
 | [],n,s,_,_,_,_,_=>⟨[],rfl⟩
 | v :: l,n,s,hc,hV,hs,h1,h2=>by
  obtain⟨hsv,hc⟩:=hc;have hv:=hV v (by simp);have hp:(0:Int)<2 ^ p:=Int.pow_pos (by decide);have e0:0≤(v-s) / 2 ^ p:=Int.ediv_nonneg (by omega) (by omega);have e1:(v-s) / 2 ^ p≤(V-s) / 2 ^ p:=Int.ediv_le_ediv hp (by omega)
  have e2:(v-s) / 2 ^ p+(V-v) / 2 ^ p≤(V-s) / 2 ^ p:=by
   apply(Int.le_ediv_iff_mul_le hp).2
   have a1:=Int.ediv_mul_le (v-s) (b:=2 ^ p) (by omega);have a2:=Int.ediv_mul_le (V-v) (b:=2 ^ p) (by omega);rw[Int.add_mul];omega
  have e3:0≤(V-v) / 2 ^ p:=Int.ediv_nonneg (by omega) (by omega);rw[List.length_cons] at h2
  have h3:((l.length+1:Nat):Int) * (1+p)=l.length * (1+p)+(1+p):=by
   rw[Int.natCast_add,Int.add_mul];simp
  rw[h3] at h2;have h4:(0:Int)≤l.length * (1+p):=Int.mul_nonneg (by omega) (by omega);have hn:((n+((v-s) / 2 ^ p).toNat+1+p:Nat):Int)=n+(v-s) / 2 ^ p+1+p:=by omega
  obtain⟨B,hB⟩:=ZpK p V l (n+((v-s) / 2 ^ p).toNat+1+p) v hc (fun x hx=>hV x (by simp[hx])) (by omega) (by omega) (by rw[hn]; omega);rw[ZhT,if_neg (by omega),hB];exact⟨_,rfl⟩
theorem Zn0 (l:List (List Int)):(dfs [] l).length≤l.length:=by
 have:=dfs_len l [];simpa using this
theorem Ztj {k:Arr 2}{l:List (List Int)}{r:Tapi_Filter×Int}(hl:l.length≤4096) (h:BR k l 10 1533 r):r.2=0∧Byt r.1.2∧r.1.1=((dfs [] l).length:Int)∧DR r.1 10=(srt ((dfs [] l).map (ZeJ k r.1.1 1533)),0):=by
 rcases Zy6 hl (by omega) (by omega) h with hr | hr
 ·exfalso
  have hd:=Zn0 l;rcases h with ⟨a1,_⟩ | ⟨_,a2,_⟩ | ⟨_,_,h⟩
  ·omega
  ·omega
  ·rcases h with ⟨a1,_⟩ | ⟨_,a2,_⟩ | ⟨_,_,_,a4,_⟩ | ⟨h1,_,_,h4,h5⟩
   ·rw[Zam] at a1; simp at a1; omega
   ·omega
   ·exact absurd (Zr0 _) a4
   ·have hn:IntKind.u64.wrap ((IntKind.u64.wrap ((dfs [] l).length:Int)) * 1533)=((dfs [] l).length:Int) * 1533:=by
     rw[wu ((dfs [] l).length:Int) (by omega),wu (((dfs [] l).length:Int) * 1533) (by omega)]
    have hval:∀ x∈srt ((dfs [] l).map (ZeJ k ((dfs [] l).length:Int) 1533)),x≤4096 * 1533:=by
     intro x hx;obtain⟨y,_,rfl⟩:=List.mem_map.1 ((ZkS _).mem_iff.1 hx);unfold ZeJ;rw[hn];have:=Zyc (Zti k y) (y:=((dfs [] l).length:Int) * 1533) (by omega);omega
    have hu:=ZoW (ZoV k ((dfs [] l).length:Int) 1533 (dfs [] l));have hlen:(srt ((dfs [] l).map (ZeJ k ((dfs [] l).length:Int) 1533))).length≤4096:=by rw[Zam]; simp; omega
    obtain⟨B,hB⟩:=ZpK 10 (4096 * 1533) (srt ((dfs [] l).map (ZeJ k ((dfs [] l).length:Int) 1533))) 0 0 (asc_chain _ 0 (fun h0=>(hu _ (List.getElem_mem h0)).1) h4) hval (by omega) (by decide) (by
     have:((4096 * 1533:Int)-0) / 2 ^ 10=6132:=by decide
     rw[this];rw[show((1:Int)+((10:Nat):Int))=11 from rfl]
     omega)
    rw[show(10:Int).toNat=10 from rfl,hB] at h5;obtain⟨y,hy,_⟩:=h5;rw[hy] at hr;simp at hr
 ·exact hr
theorem ZvZ {k:Arr 2}{l t:List (List Int)}{r:Tapi_Filter×Int}(hl:l.length≤4096) (h:BR k l 10 1533 r) (ht:t.length≤4096){x:List Int}(hx:x∈t) (hxl:x∈l):MR k r.1 t 10 1533=(true,0):=by
 obtain⟨h0,hby,hcount,hdr⟩:=Ztj hl h;have hd:=Zn0 l;rw[ZuB ht (by omega) (by omega) hdr]
 congr 1
 rw[List.any_eq_true];refine⟨x,hx,?_⟩;rw[decide_eq_true_eq];exact(ZkS _).mem_iff.2 (List.mem_map_of_mem ((dfs_mem l [] x).2 (.inr hxl)))
theorem Zyd {k:Arr 2}{l t:List (List Int)}{r:Tapi_Filter×Int}(hl:l.length≤4096) (h:BR k l 10 1533 r) (ht:t.length≤4096):(MR k r.1 t 10 1533).2=0:=by
 obtain⟨h0,hby,hcount,hdr⟩:=Ztj hl h;have hd:=Zn0 l;rw[ZuB ht (by omega) (by omega) hdr]
end
section
open Go.Sort
set_option maxRecDepth 100000
theorem Zv0 {l:List Int}(h:l.length≤12):Yp l=some (srt l):=by
 obtain⟨h2,h3⟩:=insertionSort_holds swo_ltInt l.toArray 0 l.length (by omega) (by simp);have hu:=sorted_unique_holds swo_ltInt (fun x y h1 h2=>by simp only[ltInt,decide_eq_false_iff_not] at h1 h2; omega) l.toArray (insertionSort ltInt l.toArray 0 l.length) (by simpa using h2) (by simpa using h3)
 have hd:(insertionSort ltInt l.toArray 0 l.length).toList=srt l:=by
  rw[hu,srt];show l.mergeSort _=_
  congr 1
  funext x y
  simp[ltInt]
  by_cases h:x≤y
  ·simp[h]
   try omega
  ·simp[h]
   try omega
 have hi:=ZxS l.toArray 0 l.length (by simp) (by omega) (by simp; omega);rw[hd] at hi
 have hb:∀ (rf:List Int→Int→Int→Int→Option (List Int)) (c:Int),Yt rf l 0 (l.length:Int) c=some (srt l):=by
  intro rf c;unfold Yt;refine Xi ?_;simp only[XL];rw[wi _ (by omega),if_pos (by omega)];have hi':Zv l 0 (l.length:Int)=some (srt l):=hi;rw[hi',Za,Zj (Zam l),Zj (Zam l)]
 have hf:∀ c:Int,YA l 0 (l.length:Int) c=some (srt l):=fun c=>by
  refine Zwx (fun n x hx=>?_) ⟨1,hb _ c⟩;cases n with
  | zero=>simp[Lslices_pdqsortOrdered_of_uint64w_n] at hx
  | succ n =>
   rw[Lslices_pdqsortOrdered_of_uint64w_n,hb] at hx;exact(Option.some.inj hx).symm
 rw[Yp,Zoo (by omega),ZxT (by omega),Za,hf,Za,Zj (Zam l),Zj (Zam l)]
theorem Zoy (k:Arr 2) (l:List (List Int)) (n m:Int) (hi:Ziz l) (hl:l.length≤12):ZaP k l n m=some (srt (l.map (ZeJ k n m))):=by
 rw[ZaP]
 obtain⟨r,h1,rfl⟩:=Xa (step:=ZbQ l k n m) (fun q s=>∃ i:Nat,s=((i:Int),(l.take i).map (ZeJ k n m))∧i≤l.length∧q=l.length-i) (fun r=>r=srt (l.map (ZeJ k n m))) (by
  rintro q s ⟨i,rfl,hil,rfl⟩
  by_cases h:i<l.length
  ·refine .inl ⟨l.length-(i+1),(((i+1:Nat):Int),(l.take (i+1)).map (ZeJ k n m)),by omega,?_,i+1,rfl,by omega,rfl⟩
   simp only[ZbQ,if_pos (show(i:Int)<(l.length:Int) by omega)];rw[Zi h,Zx1 k _ (hi _ (List.getElem_mem h)).2,Za,ZvJ,Za,Zj (by simp; omega),wS (by omega),ZpU _ _ _ h];rfl
  ·refine .inr ⟨_,?_,rfl⟩
   simp only[ZbQ,if_neg (show ¬ (i:Int)<(l.length:Int) by omega),ZdV];rw[List.take_of_length_le (by omega),Zv0 (by simp; omega),Za,Zj (Zam _)]
   rfl) _ (0,[]) ⟨0,rfl,by omega,rfl⟩
 exact h1
theorem ZuC (k:Arr 2) (l:List (List Int)) (hi:Ziz l) (hl:l.length≤12):∃ r,ZcR k l 10 1533=some r∧BR k l 10 1533 r:=by
 rw[ZcR,if_neg (by omega),if_neg (by omega)];refine Xa (step:=ZaZ l k 1533 10) (fun q s=>∃ (i:Nat) (mp:List (ByteArray×Bool)),s=((i:Int),mp,dfs [] (l.take i))∧i≤l.length∧(∀ x,Byt x→((Zb7 (ZgA x) mp).getD false=true↔x∈dfs [] (l.take i)))∧q=l.length-i) _ ?_ _ _ ⟨0,[],rfl,by omega,by intro x hx; simp[Zb7,dfs],rfl⟩;rintro q s ⟨i,mp,rfl,hil,hmp,rfl⟩
 have hdl:=dfs_len (l.take i) [];by_cases h:i<l.length
 ·have hx:=(hi _ (List.getElem_mem h)).1
  by_cases hq:l[i]∈dfs [] (l.take i)
  ·refine .inl ⟨l.length-(i+1),(((i+1:Nat):Int),mp,dfs [] (l.take (i+1))),by omega,?_,i+1,mp,rfl,by omega,?_,rfl⟩
   ·simp only[ZaZ,if_pos (show(i:Int)<(l.length:Int) by omega)]
    rw[Zi h,if_neg (by simp[(hmp _ hx).2 hq]),ZaY,wS (by omega),Zk3 _ _ h,dfs_snoc,if_pos hq]
   ·intro x hb
    rw[hmp x hb,Zk3 _ _ h,dfs_snoc,if_pos hq]
  ·refine .inl ⟨l.length-(i+1),(((i+1:Nat):Int),ZeY (ZgA l[i]) true mp,dfs [] (l.take (i+1))),by omega,?_,i+1,_,rfl,by omega,?_,rfl⟩
   ·simp only[ZaZ,if_pos (show(i:Int)<(l.length:Int) by omega)]
    rw[Zi h,if_pos (fun e=>hq ((hmp _ hx).1 e)),Zj (by simp at hdl; omega),ZaY,wS (by omega),Zk3 _ _ h,dfs_snoc,if_neg hq]
   ·intro x hb
    rw[Zs5,Zk3 _ _ h,dfs_snoc,if_neg hq];by_cases e:x=l[i]
    ·subst e; simp
    ·rw[if_neg (fun e2=>e (ZpC hb hx e2)),hmp x hb]
     simp[e]
 ·have hdi:=Zuf hi
  have hdl2:=dfs_len l [];simp only[List.length_nil,Nat.zero_add] at hdl2;obtain⟨r,g1,g2,g3⟩:=ZvF (srt ((dfs [] l).map (ZeJ k ((dfs [] l).length:Int) 1533))) 10 (ZoW (ZoV _ _ _ _)) (by rw[Zam]; simp; omega);refine .inr ⟨r,?_,.inr (.inr ⟨by omega,by omega,g3⟩)⟩;simp only[ZaZ,if_neg (show ¬ (i:Int)<(l.length:Int) by omega),Zeo];rw[List.take_of_length_le (by omega),Zoy k _ _ 1533 hdi (by omega),Za,g1,Za];rfl
theorem ZrB {l:List Int}(hl:l.length≤1):Ya l=some (ZhU [] l):=by
 rw[Ya,if_pos (by omega)]
 match l,hl with
 | [],_=>rfl
 | [x],_=>simp[ZhU]
theorem ZrC (k:Arr 2) (l:List (List Int)) (n m:Int) (hi:Ziz l) (hl:l.length≤1):Zb4 k l n m=some (VR k l n m):=by
 rw[Zb4,VR];by_cases h1:4096<l.length
 ·rw[if_pos (by omega),if_pos h1]
 ·rw[if_neg (by omega),if_neg h1]
  by_cases h2:((n<0∨4096<n)∨m<1)∨1099511627776<m
  ·rw[if_pos h2,if_pos h2]
  ·rw[if_neg h2,if_neg h2,Zoy k l n m hi (by omega),Za,ZrB (by rw[Zam]; simp; omega),Za]
theorem Zy7 (a b:List Int×Int) (s:Int×Int):Zeq a b s=Zbm a b s:=by
 obtain⟨x,y⟩:=s;rfl
theorem Ztk (k:Arr 2) (f:Tapi_Filter) (l:List (List Int)) (p m:Int) (hb:Byt f.2) (hi:Ziz l) (hl:l.length≤1):ZcS k f l p m=some (MR k f l p m):=by
 rw[ZcS,Zug f p hb,Za,MR];by_cases h1:(DR f p).2=0
 ·rw[if_neg (by simp[h1]),if_pos h1,ZrC k l f.1 m hi hl,Za]
  by_cases h2:(VR k l f.1 m).2=0
  ·rw[if_neg (by simp[h2]),if_pos h2]
   rw[show Zeq (VR k l f.1 m) (DR f p)=Zbm (VR k l f.1 m) (DR f p) from funext (Zy7 _ _)];exact Zs7 (VR k l f.1 m).1 (DR f p).1 (VR k l f.1 m).2 (DR f p).2 (Zx6 f p) (Zx7 k l f.1 m) (by have:=Zx5 f p; omega) (by have:=Zx2 k l f.1 m (by omega); omega) _ 0 0 rfl (by omega) (by omega) (fun x hx h=>by omega)
  ·rw[if_pos h2,if_neg h2]
 ·rw[if_pos h1,if_neg h1]
theorem Zye {b:Tapi_Block}(h:ZmR b) (hb:ZvR b) (hl:(elS b).length≤12) (he:(Zmc b).2=0):∃ r,Zby b=some r∧BR (ZoX (Zmb b.1)) (elS b) 10 1533 r:=by
 obtain⟨r,r1,r3⟩:=ZuC (ZoX (Zmb b.1)) (elS b) (Zuj h hb) hl;unfold Zby;rw[Zui,Za];refine⟨r,?_,r3⟩;rw[if_neg (by simp[he]),Zq3,Za,Zr3,Za,Zrt h,Za,r1];rfl
theorem ZuD (f:Tapi_Filter) (h:Arr 32) (l:List (List Int)) (hf:Byt f.2) (hi:Ziz l) (hl:l.length≤1):XX f h l=some (MR (ZoX h) f (l.flatMap posE) 10 1533):=by
 unfold XX;refine Zko l posE [] ?_ ?_
 ·intro i hi
  have hp:=Zbr posE 1 (l.take i) fun o _=>ZnX o
  rw[List.length_take] at hp;simp only[Zes,List.nil_append,Zck];rw[if_pos (by omega),Zi hi,Zp hi (by omega)];by_cases h0:0<l[i].length
  ·rw[if_pos (by omega),Zj (by omega)]
   simp only[posE,if_pos h0]
  ·rw[if_neg (by omega)]
   simp only[posE,if_neg h0,List.append_nil]
 ·have hp:=Zbr posE 1 l fun o _=>ZnX o
  simp only[Zes,List.nil_append,Zer];rw[if_neg (by omega),Zr3,Za,Ztk _ _ _ _ _ hf (Zta hi) (by omega)];rfl
theorem Ztl {v:Int}(h:0≤v∧v≤255):Tot (ZeB v) PrmOk:=by
 unfold ZeB;have e:∃ x,Zii (zA 4)=some x∧dg x:=⟨_,rfl,ZfA (ZfA (ZfA (ZfA dg_zero (by omega) (ZiD _ _ _)) (by omega) (ZiD _ _ _)) (by omega) (ZiD _ _ _)) (by omega) (ZiD _ _ _)⟩
 obtain⟨x,e,hx⟩:=e;rw[e,Za,Zdp h.1,Zdp h.1,wi (v % 5) (by omega),wi (v % 3) (by omega),wi (3+v % 5) (by omega),wi (4+v % 3) (by omega)];refine(Zni hx 1).bind fun y hy=>Zb ⟨⟨by dsimp only; omega,by dsimp only; omega⟩,hy,by dsimp only; omega,by dsimp only; omega,rfl,by dsimp only; omega,by dsimp only; omega⟩
theorem ZuE {v:Int}(h:0≤v∧v≤255):Tot (ZfS v) (Zq7 0):=by
 unfold ZfS;refine(Ztl h).bind fun p hp=>?_
 have h1:Tot (ZeC p) fun r=>Zo1 r.1∧r.1.1=0:=by
  unfold ZeC;refine(Zef hp).bind fun y _=>Zg (fun _=>Zb ⟨⟨by simp,by simp⟩,rfl⟩) (fun _=>?_)
  rw[ZeO,Za];exact Zb ⟨⟨by simp,by simp⟩,rfl⟩
 have h2:Tot (ZeD p) fun r=>ZmV r.1:=by
  unfold ZeD;refine(Zef hp).bind fun y _=>Zg (fun _=>Zb ⟨⟨by simp,by simp⟩,by simp⟩) (fun _=>?_)
  rw[ZeO,Za];exact Zb ⟨hp.bits,by simp⟩
 refine h1.bind fun a ha=>h2.bind fun c hc=>Zb ⟨hp,by simp,?_,?_,by simp⟩
 ·intro l hl
  obtain rfl:=List.mem_singleton.1 hl;exact⟨ha.1,by omega,by omega⟩
 ·intro l hl
  obtain rfl:=List.mem_singleton.1 hl;exact hc
theorem ZpL {v:Int}(h:0≤v∧v≤255){l:List Int}(hl:∀ a∈l,0≤a∧a≤255) (hn:l.length≤1000):Tot (ZbR v l) (Zq7 l.length):=by
 unfold ZbR;refine(ZuE h).bind fun w hw=>(ZvY (k:=0) (w:=(w.1,w.2.1,w.2.2.1,w.2.2.2.1,w.2.2.2.2)) hw hl (by omega)).bind fun r hr=>?_
 have:=hr.1;rw[Nat.zero_add] at this;exact Zb this
end
section
set_option maxRecDepth 100000
theorem ZuF {α:Type}{x:Option α}{a:α}(h:Tot x fun r=>r=a):x=some a:=by
 obtain⟨r,rfl,rfl⟩:=h;rfl
theorem Zq9 {l:List Int}(hl:l.length≤9223372036854775807):Tot (Ze5 l 8) fun r=>r.length≤8∧∀ a∈r,a∈l:=by
 unfold Ze5
 have e:∃ m:Nat,(if (8:Int)<(l.length:Int) then 8 else(l.length:Int))=(m:Int)∧m≤8∧m≤l.length:=by
  by_cases h:(8:Int)<(l.length:Int)
  ·exact⟨8,by rw[if_pos h]; rfl,by omega,by omega⟩
  ·exact⟨l.length,by rw[if_neg h],by omega,by omega⟩
 obtain⟨m,e,h1,h2⟩:=e;rw[e];refine Zx (by omega) (Zb ⟨?_,fun a ha=>List.mem_of_mem_take ha⟩);rw[Int.toNat_natCast,List.length_take];omega
section
variable {b:Tapi_Block}
theorem ZuG (h:BlkM b):ZmR b:=by
 refine⟨by have:=h.len; omega,fun t ht=>?_⟩;obtain⟨h1,h2,h3,h4⟩:=h.one t ht;exact⟨by omega,by omega,fun o ho=>by have:=(h4 o ho).len; omega⟩
theorem Zv1 (h:BlkM b):ZvR b:=fun t ht=>⟨(h.one t ht).2.2.1,fun o ho=>((h.one t ht).2.2.2 o ho).byt⟩
theorem Zo2 (h:BlkM b):(elS b).length≤12:=by
 have h1:∀ t∈b.2,(txE t).length≤3:=by
  intro t ht;obtain⟨h1,h2,-,-⟩:=h.one t ht;have ho:=Zbr ZiB 1 t.2.2.1 fun o _=>Zmd o
  have hi:=Zbr inE 1 t.2.1 fun o _=>by simp[inE]
  unfold txE;rw[List.length_append];split
  ·simp only[List.length_nil]
   omega
  ·omega
 have:=Zbr txE 3 b.2 h1;have:=h.len;unfold elS;omega
theorem Zoz (h:BlkM b) (hc:ZnY b):∃ r,Zby b=some r∧r.2=0∧Byt r.1.2∧BR (ZoX (Zmb b.1)) (elS b) 10 1533 r:=by
 obtain⟨-,-,he⟩:=Znv hc.fits;obtain⟨r,h1,h2⟩:=Zye (ZuG h) (Zv1 h) (Zo2 h) (by rw[he]);obtain⟨g1,g2,-,-⟩:=Ztj (by have:=Zo2 h; omega) h2;exact⟨r,h1,g1,g2,h2⟩
theorem ZpM (h:BlkM b){r:Tapi_Filter×Int}(hr:BR (ZoX (Zmb b.1)) (elS b) 10 1533 r) (hb:Byt r.1.2){x:List Int}(hx:Byt x) (hl:x.length≤100000):Tot (XX r.1 (Zmb b.1) [x]) fun m=>m.2=0∧(0<x.length→x∈elS b→m.1=true):=by
 have hi:Ziz [x]:=by
  intro y hy;obtain rfl:=List.mem_singleton.1 hy;exact⟨hx,hl⟩
 rw[ZuD r.1 (Zmb b.1) [x] hb hi (by simp)];have hl4:(elS b).length≤4096:=by have:=Zo2 h; omega
 have ht:([x].flatMap posE).length≤4096:=by
  have:=Zbr posE 1 [x] fun o _=>ZnX o
  simp only[List.length_cons,List.length_nil] at this;omega
 refine Zb ⟨Zyd hl4 hr ht,fun h0 hm=>?_⟩;have hp:x∈[x].flatMap posE:=List.mem_flatMap.2 ⟨x,by simp,by rw[posE,if_pos h0]; simp⟩;rw[ZvZ hl4 hr ht hp hm]
end
theorem ZuH {b:Tapi_Block}{t:Tapi_Tx}{o:Tapi_Output}(ht:t∈b.2) (ho:o∈t.2.2.1) (h0:0<o.2.length):o.2∈elS b :=
 List.mem_flatMap.2 ⟨t,ht,List.mem_append.2 (.inl (List.mem_flatMap.2 ⟨o,ho,by rw[ZiB,if_pos h0]; simp⟩))⟩
theorem filterMisses (hs:Llaw20_sanew=some true) (v:Int) (l:List Int) (c:List Int) (hv:0≤v∧v≤255) (hl:l.length≤9223372036854775807∧∀ a∈l,0≤a∧a≤255) (hc:∀ a∈c,0≤a∧a≤255):ZiG v l c=some true:=by
 refine ZuF ?_;unfold ZiG;rw[hs,Za,if_neg (by simp)];refine Zg (fun _=>Zb rfl) (fun hc1=>?_);refine(Zq9 hl.1).bind fun s hs=>(ZpL hv (fun a ha=>hl.2 a (hs.2 a ha)) (by omega)).bind fun w hw=>?_
 have hwl:w.2.1.length≤8:=by have:=hw.lens.2.2.2; omega
 refine YX w.2.1 (fun _=>True) (by omega) trivial ?_ ?_
 ·intro i hi _
  simp only[Zd9];rw[if_pos (by omega),Yu hi,Ze9 hi];obtain⟨hcb,hm⟩:=hw.blk _ (List.getElem_mem hi);generalize w.2.1[i]=b at hcb hm ⊢;obtain⟨r,h1,h2,h3,h4⟩:=Zoz hm hcb;rw[h1,Za];refine(Zhn hv.1).bind fun sc hsc=>?_
  have hbl:=hm.len
  have hsl:∀ y∈[c,sc],Byt y∧y.length≤100000:=by
   intro y hy;simp only[List.mem_cons,List.not_mem_nil,or_false] at hy;rcases hy with rfl | rfl
   ·exact⟨hc,by omega⟩
   ·exact⟨hsc.byt,by rw[hsc.len]; omega⟩
  have key:Tot (Zd (ZbD c sc b r (i:Int)) 0) fun z=>z = .inl ((i+1:Nat):Int):=by
   refine YX [c,sc] (fun _=>True) (by simp) trivial ?_ ?_
   ·intro k hk _
    have hk2:k<2:=by simpa using hk
    simp only[ZbD];rw[if_pos (by omega),Yu hk2,Ze9 hk,ZeO,Za];obtain⟨hy1,hy2⟩:=hsl _ (List.getElem_mem hk);generalize [c,sc][k]=y at hy1 hy2 ⊢;refine(ZpM hm h4 h3 hy1 hy2).bind fun m hmm=>?_
    rw[if_neg (by simp[hmm.1])]
    have key2:Tot (Zd (ZbC b m y (k:Int)) 0) fun z=>z = .inl ((k+1:Nat):Int):=by
     refine YX b.2 (fun _=>True) (by omega) trivial ?_ ?_
     ·intro q hq _
      simp only[ZbC];rw[if_pos (by omega),Zi hq];have hin:=List.getElem_mem hq;generalize b.2[q]=t at hin ⊢;obtain⟨t1,t2,t3,t4⟩:=hm.one t hin
      have key3:Tot (Zd (ZbB t m y (q:Int)) 0) fun z=>z = .inl ((q+1:Nat):Int):=by
       refine YX t.2.2.1 (fun _=>True) (by omega) trivial ?_ ?_
       ·intro p hp _
        simp only[ZbB];rw[if_pos (by omega),Zi hp];have hs4:=t4 _ (List.getElem_mem hp);have hel:=ZuH (b:=b) hin (List.getElem_mem hp) (by rw[hs4.len]; omega);generalize t.2.2.1[p]=o at hs4 hel ⊢
        have h5:Tot (if (¬ (m.1=true)∧0<(y.length:Int)) then(Zbw o.2 y).bind fun y581=>some (y581) else some (false)) fun z=>(¬ (m.1=true)∧0<(y.length:Int))→z=decide (o.2=y):=by
         refine Zg (fun _=>?_) (fun hn=>Zb fun h=>absurd h hn);rw[ZqY hs4.byt hy1,Za];exact Zb fun _=>rfl
        refine h5.bind fun z hz=>?_
        rw[if_neg]
        ·exact Zb ⟨Zp hp (by omega),trivial⟩
        ·rintro⟨hcd,hzt⟩
         have:=hz hcd;rw[hzt] at this;have heq:o.2=y:=of_decide_eq_true this.symm;exact hcd.1 (hmm.2 (by omega) (heq ▸ hel))
       ·intro _
        simp only[ZbB];rw[if_neg (by omega)];refine Tot.inr ?_;unfold Zhi;exact Zb (by rw[Zp hq (by omega)])
      refine key3.mono fun z hz=>?_
      subst hz;exact⟨rfl,trivial⟩
     ·intro _
      simp only[ZbC];rw[if_neg (by omega)];refine Tot.inr ?_;unfold Zhh;exact Zb (by rw[Zp hk2 (by omega)])
    refine key2.mono fun z hz=>?_
    subst hz;exact⟨rfl,trivial⟩
   ·intro _
    simp only[ZbD];rw[if_neg (by simp)];refine Tot.inr ?_;unfold Zhg;exact Zb (by rw[Zp hi (by omega)])
  refine key.mono fun z hz=>?_
  subst hz;exact⟨rfl,trivial⟩
 ·intro _
  simp only[Zd9];rw[if_neg (by omega)];exact⟨true,rfl,rfl⟩
end
section
set_option maxRecDepth 100000
theorem Zo3 (v:Int) (l:List Int) (c:List Int) (hv:0≤v∧v≤255) (hl:l.length≤9223372036854775807∧∀ a∈l,0≤a∧a≤255) (hc:∀ a∈c,0≤a∧a≤255):Y6 v l c=some true:=by
 refine ZuF ?_;unfold Y6;rw[Lconst_true,Za,if_neg (by simp)];refine Zg (fun _=>Zb rfl) (fun hc1=>?_);refine(Zq9 hl.1).bind fun s hs=>(ZpL hv (fun a ha=>hl.2 a (hs.2 a ha)) (by omega)).bind fun w hw=>?_
 have hwl:w.2.1.length≤8:=by have:=hw.lens.2.2.2; omega
 refine YX w.2.1 (fun _=>True) (by omega) trivial ?_ ?_
 ·intro i hi _
  simp only[ZaQ];rw[if_pos (by omega),Yu hi,Ze9 hi];obtain⟨hcb,hm⟩:=hw.blk _ (List.getElem_mem hi);generalize w.2.1[i]=b at hcb hm ⊢;obtain⟨r,h1,h2,h3,h4⟩:=Zoz hm hcb;rw[h1,Za];refine(Zhn hv.1).bind fun sc hsc=>?_
  have hbl:=hm.len
  have hsl:∀ y∈[c,sc],Byt y∧y.length≤100000:=by
   intro y hy;simp only[List.mem_cons,List.not_mem_nil,or_false] at hy;rcases hy with rfl | rfl
   ·exact⟨hc,by omega⟩
   ·exact⟨hsc.byt,by rw[hsc.len]; omega⟩
  have key:Tot (Zd (XP c sc b r (i:Int)) 0) fun z=>z = .inl ((i+1:Nat):Int):=by
   refine YX [c,sc] (fun _=>True) (by simp) trivial ?_ ?_
   ·intro k hk _
    have hk2:k<2:=by simpa using hk
    simp only[XP];rw[if_pos (by omega),Yu hk2,Ze9 hk,ZeO,Za];obtain⟨hy1,hy2⟩:=hsl _ (List.getElem_mem hk);generalize [c,sc][k]=y at hy1 hy2 ⊢;refine(ZpM hm h4 h3 hy1 hy2).bind fun m hmm=>?_
    rw[if_neg (by simp[hmm.1])]
    have key2:Tot (Zd (XO b m y (k:Int)) 0) fun z=>z = .inl ((k+1:Nat):Int):=by
     refine YX b.2 (fun _=>True) (by omega) trivial ?_ ?_
     ·intro q hq _
      simp only[XO];rw[if_pos (by omega),Zi hq];have hin:=List.getElem_mem hq;generalize b.2[q]=t at hin ⊢;obtain⟨t1,t2,t3,t4⟩:=hm.one t hin
      have key3:Tot (Zd (XN t m y (q:Int)) 0) fun z=>z = .inl ((q+1:Nat):Int):=by
       refine YX t.2.2.1 (fun _=>True) (by omega) trivial ?_ ?_
       ·intro p hp _
        simp only[XN];rw[if_pos (by omega),Zi hp];have hs4:=t4 _ (List.getElem_mem hp);have hel:=ZuH (b:=b) hin (List.getElem_mem hp) (by rw[hs4.len]; omega);generalize t.2.2.1[p]=o at hs4 hel ⊢
        have h5:Tot (if (¬ (m.1=true)∧0<(y.length:Int)) then(Zbw o.2 y).bind fun y581=>some (y581) else some (false)) fun z=>(¬ (m.1=true)∧0<(y.length:Int))→z=decide (o.2=y):=by
         refine Zg (fun _=>?_) (fun hn=>Zb fun h=>absurd h hn);rw[ZqY hs4.byt hy1,Za];exact Zb fun _=>rfl
        refine h5.bind fun z hz=>?_
        rw[if_neg]
        ·exact Zb ⟨Zp hp (by omega),trivial⟩
        ·rintro⟨hcd,hzt⟩
         have:=hz hcd;rw[hzt] at this;have heq:o.2=y:=of_decide_eq_true this.symm;exact hcd.1 (hmm.2 (by omega) (heq ▸ hel))
       ·intro _
        simp only[XN];rw[if_neg (by omega)];refine Tot.inr ?_;unfold Zdo;exact Zb (by rw[Zp hq (by omega)])
      refine key3.mono fun z hz=>?_
      subst hz;exact⟨rfl,trivial⟩
     ·intro _
      simp only[XO];rw[if_neg (by omega)];refine Tot.inr ?_;unfold Zdn;exact Zb (by rw[Zp hk2 (by omega)])
    refine key2.mono fun z hz=>?_
    subst hz;exact⟨rfl,trivial⟩
   ·intro _
    simp only[XP];rw[if_neg (by simp)];refine Tot.inr ?_;unfold Zdm;exact Zb (by rw[Zp hi (by omega)])
  refine key.mono fun z hz=>?_
  subst hz;exact⟨rfl,trivial⟩
 ·intro _
  simp only[ZaQ];rw[if_neg (by omega)];exact⟨true,rfl,rfl⟩
end
end Go.Lc
