import Derived.Test.YtbppknpnmjhjpaaGreatDoorLcG5
import Derived.Test.YtbppknpnmjhjpaaGreatDoorLcG3
import Derived.Test.YtbppknpnmjhjpaaGreatDoorLcG4
namespace Go.Lc
open Go.RowKit
open Go.Av
set_option linter.unusedVariables false
set_option linter.unusedSimpArgs false
section
set_option maxRecDepth 100000
theorem ZzG {l:List Int}{p:Int}{r:Tapi_Filter×Int}(h:ER l p r):Byt r.1.2:=by
 rcases h with ⟨_,rfl⟩ | ⟨_,_,rfl⟩ | ⟨_,_,_,_,rfl⟩ | ⟨_,_,_,_,h⟩
 ·intro x hx; cases hx
 ·intro x hx; cases hx
 ·intro x hx; cases hx
 ·unfold ESR at h
  split at h
  ·subst h; intro x hx; cases hx
  ·obtain⟨y,rfl,hw⟩:=h
   exact hw.2.1.byt
theorem ZzH {k:Arr 2}{l:List (List Int)}{p m:Int}{r:Tapi_Filter×Int}(h:BR k l p m r):Byt r.1.2:=by
 rcases h with ⟨_,rfl⟩ | ⟨_,_,rfl⟩ | ⟨_,_,h⟩
 ·intro x hx; cases hx
 ·intro x hx; cases hx
 ·exact ZzG h
end
section
set_option maxRecDepth 100000
theorem ZtR (d:List Int) (a p:Nat) (v:Nat):∀ j,j≤p→(∀ i,i<j→bt d (a+i)=decide (((v:Int) / 2 ^ (p-1-i)) % 2=1))→Zox d a j=((v / 2 ^ (p-j) % 2 ^ j:Nat):Int)
 | 0,_,_=>by simp[Zox,Nat.mod_one]
 | j+1,hj,h=>by
  have ih:=ZtR d a p v j (by omega) (fun i hi=>h i (by omega));have hb:=h j (by omega);have e:p-j=(p-(j+1))+1:=by omega
  have e2:p-1-j=p-(j+1):=by omega
  rw[e2] at hb;generalize hk:p-(j+1)=k at *;rw[Zox,ih,hb,e,Nat.pow_succ 2 k,← Nat.div_div_eq_div_mul]
  have hc:((v:Int) / 2 ^ k)=((v / 2 ^ k:Nat):Int):=by
   rw[Int.natCast_ediv];simp
  rw[hc];generalize v / 2 ^ k=u;have hm:=Nat.mod_mul (x:=u) (a:=2) (b:=2 ^ j);rw[Nat.pow_succ,Nat.mul_comm (2 ^ j) 2,hm];have hu2:u % 2=0∨u % 2=1:=by omega
  rcases hu2 with h0 | h1
  ·rw[if_neg (by simp; omega),h0]
   omega
  ·rw[if_pos (by simp; omega),h1]
   omega
theorem ZzI {q p:Nat}{low:Nat}(hl:low<2 ^ p) (hs:q * 2 ^ p+low≤18446744073709551615):bits .or .u64 (IntKind.u64.wrap ((q:Int) * 2 ^ p)) (low:Int)=((q * 2 ^ p+low:Nat):Int):=by
 have e0:(q:Int) * 2 ^ p=((q * 2 ^ p:Nat):Int):=by simp
 rw[e0,Zp6 (by omega)];show IntKind.u64.wrap ((BitVec.ofInt 64 ((q * 2 ^ p:Nat):Int) ||| BitVec.ofInt 64 (low:Int)).toNat:Int)=_
 rw[BitVec.toNat_or]
 have e1:(BitVec.ofInt 64 ((q * 2 ^ p:Nat):Int)).toNat=q * 2 ^ p:=by
  simp only[BitVec.toNat_ofInt];omega
 have e2:(BitVec.ofInt 64 (low:Int)).toNat=low:=by
  simp only[BitVec.toNat_ofInt];omega
 have e3:=Nat.two_pow_add_eq_or_of_lt hl q;rw[e1,e2,Nat.mul_comm q,← e3,Zp6 (by rw[Nat.mul_comm]; exact hs)]
theorem ZxD {v:Int}{p:Nat}{d:List Int}{a:Nat}(hb:∀ i (h:i<(Zc9 v p).length),bt d (a+i)=(Zc9 v p)[i]) :
  (∀ i,i<(v / 2 ^ p).toNat→bt d (a+i)=true)∧bt d (a+(v / 2 ^ p).toNat)=false∧∀ i,i<p→bt d (a+(v / 2 ^ p).toNat+1+i)=decide ((v / 2 ^ (p-1-i)) % 2=1):=by
 have hl:=ZiQ v p;refine⟨fun i hi=>?_,?_,fun i hi=>?_⟩
 ·rw[hb i (by omega)]
  simp only[Zc9];rw[List.getElem_append_left (by simpa using hi)];simp
 ·rw[hb _ (by omega)]
  simp only[Zc9];rw[List.getElem_append_right (by simp)];simp
 ·have:=hb ((v / 2 ^ p).toNat+1+i) (by omega)
  rw[show a+(v / 2 ^ p).toNat+1+i=a+((v / 2 ^ p).toNat+1+i) by omega,this];simp only[Zc9];rw[List.getElem_append_right (by simp; omega)];simp only[List.length_replicate,show(v / 2 ^ p).toNat+1+i-(v / 2 ^ p).toNat=i+1 by omega,List.getElem_cons_succ,Zlk,List.getElem_map,List.getElem_range]
theorem ZxE {d:List Int}{n a p:Nat}{v:Nat}(hb:∀ i (h:i<(Zc9 (v:Int) p).length),bt d (a+i)=(Zc9 (v:Int) p)[i]) (hn:a+(Zc9 (v:Int) p).length≤n) (hq:((v:Int) / 2 ^ p)≤65536) (hv:v≤18446744073709551615):RRS d n a p=((v:Int),a+(Zc9 (v:Int) p).length,0):=by
 obtain⟨h1,h2,h3⟩:=ZxD hb;have hl:=ZiQ (v:Int) p;have hqi:((v:Int) / 2 ^ p)=((v / 2 ^ p:Nat):Int):=by rw[Int.natCast_ediv]; simp
 have hqe:((v:Int) / 2 ^ p).toNat=v / 2 ^ p:=by rw[hqi,Int.toNat_natCast]
 rw[hqe] at h1 h2 h3 hl;rw[hqi] at hq;have hq6:v / 2 ^ p≤65536:=Int.ofNat_le.1 hq;clear hqi hq
 have ho:ones d (n-a) a=v / 2 ^ p:=by
  rw[Zrf d (v / 2 ^ p) (n-a) a (by omega) h1]
  have:ones d (n-a-v / 2 ^ p) (a+v / 2 ^ p)=0:=by
   obtain⟨f,hf⟩:∃ f,n-a-v / 2 ^ p=f+1:=⟨n-a-v / 2 ^ p-1,by omega⟩
   rw[hf,ones,if_neg (by rw[h2]; simp)]
  omega
 have hnum:=ZtR d (a+v / 2 ^ p+1) p v p (Nat.le_refl _) h3;rw[Nat.sub_self,Nat.pow_zero,Nat.div_one] at hnum;unfold RRS;rw[ho,if_neg (by omega),if_neg (by omega),hnum,ZzI (Nat.mod_lt _ (Nat.pow_pos (by omega))) (by have:=Nat.div_add_mod v (2 ^ p); rw[Nat.mul_comm]; omega)];have:=Nat.div_add_mod v (2 ^ p);rw[Nat.mul_comm] at this;rw[this,hl];simp only[Nat.add_assoc]
theorem ZtS (d:List Int) (n p:Nat):∀ (l:List Int) (a:Nat) (s:Int) (out:List Int) (B:List Bool),U64 l→Zp8 s l→0≤s→Zjj p a s l=some B→(∀ i (h:i<B.length),bt d (a+i)=B[i])→a+B.length≤n→∃ s',Zoy d n p l.length a s out=Zoy d n p 0 (a+B.length) s' (out++l)
 | [],a,s,out,B,hu,hc,hs,he,hb,hn=>by
  simp only[Zjj,Option.some.injEq] at he;subst he;exact⟨s,by simp⟩
 | v :: l,a,s,out,B,hu,hc,hs,he,hb,hn=>by
  obtain⟨hsv,hc⟩:=hc;have hvu:=hu v (by simp);rw[Zjj] at he;split at he
  ·cases he
  ·rename_i hlim
   obtain⟨B2,hB2,rfl⟩:=Option.map_eq_some_iff.1 he;obtain⟨w,hw⟩:∃ w:Nat,v-s=(w:Int):=⟨(v-s).toNat,by omega⟩
   have hl:=ZiQ (v-s) p;rw[List.length_append] at hn
   have hR:RRS d n a p=(v-s,a+(Zc9 (v-s) p).length,0):=by
    rw[hw] at hlim hb hn ⊢;exact ZxE (fun i h=>by rw[hb i (by rw[List.length_append]; omega),List.getElem_append_left h]) (by omega) (by omega) (by omega)
   have hsum:IntKind.u64.wrap (s+(v-s))=v:=by rw[wu _ (by omega)]; omega
   have ih:=ZtS d n p l (a+(Zc9 (v-s) p).length) v (out++[v]) B2 (fun x hx=>hu x (by simp[hx])) hc (by omega) (by rw[hl,show a+(((v-s) / 2 ^ p).toNat+1+p)=a+((v-s) / 2 ^ p).toNat+1+p by omega]; exact hB2) (fun i h=>by
    have:=hb ((Zc9 (v-s) p).length+i) (by rw[List.length_append]; omega);rw[show a+(Zc9 (v-s) p).length+i=a+((Zc9 (v-s) p).length+i) by omega,this,List.getElem_append_right (by omega)]
    simp) (by omega)
   obtain⟨s',ih⟩:=ih;refine⟨s',?_⟩
   have e1:Zoy d n p (v :: l).length a s out=Zoy d n p l.length (a+(Zc9 (v-s) p).length) v (out++[v]):=by
    rw[List.length_cons,Zoy,hR];simp only[hsum];rw[if_pos trivial,if_neg (by omega)]
   rw[e1,ih,List.length_append,Nat.add_assoc,List.append_assoc];rfl
theorem Zrg (d:List Int) (a:Nat):∀ p,(∀ i,i<p→bt d (a+i)=false)→Zox d a p=0
 | 0,_=>rfl
 | p+1,h=>by
  rw[Zox,Zrg d a p (fun i hi=>h i (by omega)),h p (by omega)];simp
theorem ZxF {l:List Int}{p:Nat}{B:List Bool}{y:List Int×Int}(hl:l.length≤4096) (hp:p≤32) (hu:U64 l) (ha:ZpA l) (he:Zjj p 0 0 l=some B) (hB:B.length≤1600000) (hw:Wr [] 0 B y):DR ((l.length:Int),y.1) (p:Int)=(l,0):=by
 obtain⟨h1,h2,h3⟩:=hw;rw[Nat.zero_add] at h2 h3;have hlen:=h2.len;have hbl:bl y.1 B.length=B:=h3
 have hb:∀ i (h:i<B.length),bt y.1 (0+i)=B[i]:=by
  intro i h;have:=congrArg (fun l=>l[i]?) hbl;simp[bl,h] at this
  rw[Nat.zero_add];exact this
 obtain⟨s',hd⟩:=ZtS y.1 (8 * y.1.length) p l 0 0 [] B hu (asc_chain l 0 (fun h=>(hu _ (List.getElem_mem h)).1) ha) (by omega) he hb (by omega);rw[DR];simp only;rw[if_neg (by omega),if_neg (by omega),show((p:Int)).toNat=p by omega,show((l.length:Int)).toNat=l.length by omega,hd,Zoy,if_neg (by omega),if_pos (Zrg _ _ _ fun i hi=>h2.rest _ (by omega))];simp
end
section
set_option maxRecDepth 100000
def leV:List Int→Int
 | []=>0
 | x :: l=>x+256 * leV l
theorem ZbE (x:Int):IntKind.u8.wrap x=x % 256:=rfl
theorem ZxG (n:Int) (k:Nat):Byt (Yk n k):=by
 intro x hx;obtain⟨i,_,rfl⟩:=List.mem_map.1 hx;rw[ZbE];omega
def rdS (d:List Int) (a:Int) (k:Nat):Int×Int×Int :=
 if a<0∨(d.length:Int)<a then(0,0,5) else if (d.length:Int)-a<k then(0,0,1) else(leV ((d.drop a.toNat).take k),a+k,0)
end
section
set_option maxRecDepth 100000
theorem ZyP {a b:List Int}(ha:Byt a) (hb:Byt b):Byt (a++b):=fun x hx=>(List.mem_append.1 hx).elim (ha x) (hb x)
end
noncomputable def idS (t:Tapi_Tx):Arr 32:=if Ye t=true then Zbb (Zbb (Xc t false)).l else zA 32
theorem Zqb {t:Tapi_Tx}(h:Ye t=true):(Xc t false).length≤100000000:=by
 have h1:=ZrH (Zji h);have h2:=ZyA (t:=t) (w:=false);omega
theorem Zx0 (t:Tapi_Tx):ZmW t=some (idS t):=by
 unfold ZmW Zf3 Zdo idS;rw[ZoS,Za];by_cases h:Ye t=true
 ·have hn:¬ ¬ Ye t=true:=by simp[h]
  rw[if_neg hn,if_pos h,Zmx (Zkv h),Za,Za,if_neg (by simp),Zow (Zqb h)];rfl
 ·rw[if_pos h,if_neg h]
  simp
theorem Zoz (t:Tapi_Tx):ZfS t=some (idS t):=by
 unfold ZfS idS;rw[Zgh,Za];by_cases h:Ye t=true
 ·have hn:¬ ¬ Ye t=true:=by simp[h]
  rw[if_neg hn,if_pos h,ZlB (Zkv h),Za,Znd (Zqb h)];rfl
 ·rw[if_pos h,if_neg h]
section
set_option maxRecDepth 100000
theorem ZlO {α β ρ:Type}{step:Int×List β→Option ((Int×List β) ⊕ ρ)}(l:List α) (f:α→List β) (acc:List β){x:Option ρ}
  (h:∀ i (hi:i<l.length),step ((i:Int),acc++(l.take i).flatMap f)=some (.inl (((i+1:Nat):Int),acc++(l.take i).flatMap f++f l[i])))
  (he:step ((l.length:Int),acc++l.flatMap f)=x.map .inr):Zd step (0,acc)=x:=by
 have key:=ZQ (step:=step) (fun i=>((i:Int),acc++(l.take i).flatMap f)) l.length (x:=x) ?_ ?_
 ·simpa using key
 ·intro i hi
  rw[h i hi,Zbv f hi,List.append_assoc]
 ·simpa using he
def Zmi (h:Tapi_Header):List Int:=Yk (IntKind.u64.wrap h.1) 4++h.2.1.l++h.2.2.1.l++Yk (IntKind.u64.wrap h.2.2.2.1) 4++Yk (IntKind.u64.wrap h.2.2.2.2.1) 4++Yk (IntKind.u64.wrap h.2.2.2.2.2) 4
theorem Zky (h:Tapi_Header):(Zmi h).length=80:=by simp[Zmi,h.2.1.hl,h.2.2.1.hl]
theorem Zqc (h:Tapi_Header):XC h=some (Zmi h):=by
 unfold XC;have l1:=h.2.1.hl;have l2:=h.2.2.1.hl;rw[ZjX (by simp),Za,List.nil_append,Zqt (by simp),Za,Zqt (by simp[l1]),Za,ZjX (by simp[l1,l2]),Za,ZjX (by simp[l1,l2]),Za,ZjX (by simp[l1,l2]),Za];rfl
theorem Zpc (h:Tapi_Header):XD h=some (Zmi h):=by
 unfold XD;have l1:=h.2.1.hl;have l2:=h.2.2.1.hl;rw[ZeA (by simp),Za,List.nil_append,Zks (by simp),Za,Zks (by simp[l1]),Za]
 have h0:Yn h (0,Yk (IntKind.u64.wrap h.1) 4++h.2.1.l++h.2.2.1.l)=some (.inl (1,Yk (IntKind.u64.wrap h.1) 4++h.2.1.l++h.2.2.1.l++Yk (IntKind.u64.wrap h.2.2.2.1) 4)):=by
  simp only[Yn];rw[if_pos (by omega),show(0:Int)=((0:Nat):Int) from rfl,YE (by omega)];simp only[List.getElem?_cons_zero,Za];rw[ZeA (by simp[l1,l2]),Za];rfl
 have h1:Yn h (1,Yk (IntKind.u64.wrap h.1) 4++h.2.1.l++h.2.2.1.l++Yk (IntKind.u64.wrap h.2.2.2.1) 4)=some (.inl (2,Yk (IntKind.u64.wrap h.1) 4++h.2.1.l++h.2.2.1.l++Yk (IntKind.u64.wrap h.2.2.2.1) 4++Yk (IntKind.u64.wrap h.2.2.2.2.1) 4)):=by
  simp only[Yn];rw[if_pos (by omega),show(1:Int)=((1:Nat):Int) from rfl,YE (by omega)];simp only[List.getElem?_cons_zero,List.getElem?_cons_succ,Za];rw[ZeA (by simp[l1,l2]),Za];rfl
 have h2:Yn h (2,Yk (IntKind.u64.wrap h.1) 4++h.2.1.l++h.2.2.1.l++Yk (IntKind.u64.wrap h.2.2.2.1) 4++Yk (IntKind.u64.wrap h.2.2.2.2.1) 4)=some (.inl (3,Zmi h)):=by
  simp only[Yn];rw[if_pos (by omega),show(2:Int)=((2:Nat):Int) from rfl,YE (by omega)];simp only[List.getElem?_cons_zero,List.getElem?_cons_succ,Za];rw[ZeA (by simp[l1,l2]),Za];rfl
 rw[ZT h0,ZT h1,ZT h2];exact Xv (by simp[Yn,Ze9])
noncomputable def ZoA (h:Tapi_Header):Arr 32:=Zbb (Zbb (Zmi h)).l
theorem ZsO (h:Tapi_Header):Ze8 h=some (ZoA h):=by
 unfold Ze8;rw[Zqc,Za,Zow (by rw[Zky]; omega)];rfl
theorem ZfT (h:Tapi_Header):Xt h=some (ZoA h):=by
 unfold Xt;rw[Zpc,Za,Znd (by rw[Zky]; omega)];rfl
noncomputable def ZqA (a:Arr 32):Arr 2:=⟨[wdv (a.l.take 8),wdv ((a.l.drop 8).take 8)],rfl⟩
theorem ZyQ (a:Arr 32):Zkd a=some (ZqA a):=by
 unfold Zkd;rw[Zjv _ (by simp),Za,Zjv _ (by simp)];rfl
theorem ZxH (a:Arr 32):Zh7 a=some (ZqA a):=by
 unfold Zh7;rw[Zmy,Zmy,Zjv _ (by simp),Za,Zjv _ (by simp)];rfl
theorem Zwg (t:Tapi_Tx) (w:Bool):Zdo t w=some (if Ye t=true then(Xc t w,0) else([],4)):=by
 unfold Zdo;rw[ZoS,Za];by_cases h:Ye t=true
 ·rw[if_neg (by simp[h]),if_pos h,Zmx (Zkv h)]
  rfl
 ·rw[if_pos h,if_neg h]
theorem ZyR (t:Tapi_Tx) (w:Bool):Zeu t w=some (if Ye t=true then(Xc t w,0) else([],4)):=by
 unfold Zeu;rw[Zgh,Za];by_cases h:Ye t=true
 ·rw[if_neg (by simp[h]),if_pos h,ZlB (Zkv h)]
  rfl
 ·rw[if_pos h,if_neg h]
def Zmj (b:Tapi_Block):List Int:=Zmi b.1++Za9 (b.2.length:Int)++b.2.flatMap fun t=>Xc t true
theorem Zii {t:Tapi_Tx}(h:Ye t=true):(Xc t true).length≤20000:=by
 classical
 unfold Ye at h;simp only[decide_eq_true_eq] at h;exact h.2
theorem ZcW {α β:Type}(f:α→List β) (c:Nat):∀ (l:List α),(∀ a∈l,(f a).length≤c)→(l.flatMap f).length≤c * l.length
 | [],_=>by simp
 | a :: l,h=>by
  have h1:=h a (by simp);have h2:=ZcW f c l fun x hx=>h x (by simp[hx])
  rw[List.flatMap_cons,List.length_append,List.length_cons,Nat.mul_succ];omega
noncomputable def Zi6 (b:Tapi_Block):List Int×Int:=by
 classical exact if 256<b.2.length then([],4) else if ∃ t∈b.2,¬ Ye t=true then([],4) else if 100000<(Zmj b).length then([],4) else(Zmj b,0)
theorem ZyS {b:Tapi_Block}(h:b.2.length≤256) (hf:∀ t∈b.2,Ye t=true) (i:Nat):(Zmi b.1++Za9 (b.2.length:Int)++(b.2.take i).flatMap fun t=>Xc t true).length≤10000000:=by
 have h1:=ZcW (fun t=>Xc t true) 20000 (b.2.take i) fun t ht=>Zii (hf t (List.mem_of_mem_take ht))
 have h2:=Zaz (b.2.length:Int);have h3:20000 * (b.2.take i).length≤20000 * 256:=Nat.mul_le_mul_left _ (by rw[List.length_take]; omega);rw[List.length_append,List.length_append,Zky];omega
theorem Zrh (b:Tapi_Block):Zc6 b=some (Zi6 b):=by
 classical
 unfold Zc6 Zi6;by_cases h:256<b.2.length
 ·rw[if_pos (by omega),if_pos h]
 rw[if_neg (by omega),if_neg h,Zqc,Za,Zg0 (by omega),ZlN (by omega) (by rw[Zky]; omega),Za]
 have hpre:∀ i,(∀ t∈b.2.take i,Ye t=true)→(Zmi b.1++Za9 (b.2.length:Int)++(b.2.take i).flatMap fun t=>Xc t true).length≤10000000:=by
  intro i hi;have h1:=ZcW (fun t=>Xc t true) 20000 (b.2.take i) fun t ht=>Zii (hi t ht)
  have h2:=Zaz (b.2.length:Int);have h3:20000 * (b.2.take i).length≤20000 * 256:=Nat.mul_le_mul_left _ (by rw[List.length_take]; omega);rw[List.length_append,List.length_append,Zky];omega
 have key:=Zbw (step:=Zb6 b) (fun i=>((i:Int),Zmi b.1++Za9 (b.2.length:Int)++(b.2.take i).flatMap fun t=>Xc t true)) b.2.length (fun i=>∃ h:i<b.2.length,¬ Ye b.2[i]=true) (some ([],4)) (some (if 100000<(Zmj b).length then([],4) else(Zmj b,0))) ?_ ?_ ?_ rfl
 ·have e:((∃ i,i<b.2.length∧∃ h:i<b.2.length,¬ Ye b.2[i]=true)↔∃ t∈b.2,¬ Ye t=true):=by
   constructor
   ·rintro⟨i,_,hi,h⟩
    exact⟨_,List.getElem_mem hi,h⟩
   ·rintro⟨t,ht,h⟩
    obtain⟨i,hi,rfl⟩:=List.getElem_of_mem ht;exact⟨i,hi,hi,h⟩
  simp only[List.take_zero,List.flatMap_nil,List.append_nil] at key;rw[show((0:Nat):Int)=0 from rfl] at key;rw[key];by_cases hb:∃ t∈b.2,¬ Ye t=true
  ·rw[if_pos (e.2 hb),if_pos hb]
  ·rw[if_neg (fun x=>hb (e.1 x)),if_neg hb]
 ·intro i hi hp hn
  have hf:Ye b.2[i]=true:=Decidable.byContradiction fun c=>hn ⟨hi,c⟩
  have hl:=hpre i fun t ht=>by
   obtain⟨j,hj,rfl⟩:=List.getElem_of_mem ht;rw[List.length_take] at hj;rw[List.getElem_take];exact Decidable.byContradiction fun c=>hp j (by omega) ⟨by omega,c⟩
  have hb:=Zii hf;simp only[Zb6];rw[if_pos (by omega),Zi hi,Zwg,Za,if_pos hf];dsimp only;rw[if_neg (by simp),Zj (by omega),Zp hi (by omega),Zbv _ hi,List.append_assoc _ _ (Xc _ _)]
 ·rintro i hi hp ⟨_,hf⟩
  simp only[Zb6];rw[if_pos (by omega),Zi hi,Zwg,Za,if_neg hf];rfl
 ·intro _
  simp only[Zb6,List.take_length];rw[if_neg (by omega)];unfold Zf5;rw[show(Zmi b.1++Za9 (b.2.length:Int)++b.2.flatMap fun t=>Xc t true)=Zmj b from rfl];by_cases hc:100000<(Zmj b).length
  ·rw[if_pos (by omega),if_pos hc]
  ·rw[if_neg (by omega),if_neg hc]
theorem ZuY {b:Tapi_Block}(h:b.2.length≤256) (hf:∀ t∈b.2,Ye t=true):Zev b=some (Zmj b):=by
 unfold Zev;rw[Zpc,Za,Zg0 (by omega),Zkr (by omega) (by rw[Zky]; omega),Za];refine ZlO b.2 (fun t=>Xc t true) _ ?_ ?_
 ·intro i hi
  have hl:=ZyS h hf i;have hfi:=hf _ (List.getElem_mem hi);have hb:=Zii hfi;simp only[Zf9];rw[if_pos (by omega),Zi hi,ZyR,Za,if_pos hfi];dsimp only;rw[Zj (by omega),Zp hi (by omega)]
 ·simp only[Zf9]
  rw[if_neg (by omega)];rfl
noncomputable def ZiR (b:Tapi_Block):Bool:=by classical exact decide ((Zi6 b).2=0)
theorem ZpC (b:Tapi_Block):Zfa b=some (ZiR b):=by
 classical
 unfold Zfa ZiR Zi6;by_cases h:256<b.2.length
 ·rw[if_pos (by omega),if_pos h]
  rfl
 rw[if_neg (by omega),if_neg h];by_cases hb:∃ t∈b.2,¬ Ye t=true
 ·rw[if_pos hb]
  have key:=Zfd (step:=Xu b) (fun i=>(i:Int)) b.2 (fun t=>¬ Ye t=true) (some false) (ZdC b) ?_ ?_ ?_ (s:=((0:Nat):Int)) rfl
  ·rw[show((0:Nat):Int)=0 from rfl,if_pos hb] at key
   rw[key];rfl
  ·intro i hi hn
   simp only[Xu];rw[if_pos (by omega),Zi hi,Zgh,Za,if_neg hn,Zp hi (by omega)]
  ·intro i hi hn
   simp only[Xu];rw[if_pos (by omega),Zi hi,Zgh,Za,if_pos hn];rfl
  ·simp only[Xu]
   rw[if_neg (by omega)]
 ·rw[if_neg hb]
  have hf:∀ t∈b.2,Ye t=true:=fun t ht=>Decidable.byContradiction fun c=>hb ⟨t,ht,c⟩
  have key:=Zfd (step:=Xu b) (fun i=>(i:Int)) b.2 (fun t=>¬ Ye t=true) (some false) (ZdC b) ?_ ?_ ?_ (s:=((0:Nat):Int)) rfl
  ·rw[show((0:Nat):Int)=0 from rfl,if_neg hb] at key
   rw[key];unfold ZdC;rw[ZuY (by omega) hf,Za];by_cases hc:100000<(Zmj b).length
   ·rw[if_pos hc]
    simp
    omega
   ·rw[if_neg hc]
    simp
    omega
  ·intro i hi hn
   simp only[Xu];rw[if_pos (by omega),Zi hi,Zgh,Za,if_neg hn,Zp hi (by omega)]
  ·intro i hi hn
   simp only[Xu];rw[if_pos (by omega),Zi hi,Zgh,Za,if_pos hn];rfl
  ·simp only[Xu]
   rw[if_neg (by omega)]
theorem Zwh (b:Tapi_Block) (h:¬ (Zi6 b).2=0):Zi6 b=([],4):=by
 unfold Zi6 at h ⊢;split
 ·rfl
 ·rename_i c1
  split
  ·rfl
  ·rename_i c2
   split
   ·rfl
   ·rename_i c3
    rw[if_neg c1,if_neg c2,if_neg c3] at h;exact absurd rfl h
def ZjY (o:Tapi_Output):List (List Int):=if 0<o.2.length then[o.2] else[]
def inE (x:Tapi_Input):List (List Int):=[ZkW x.1]
def txE (t:Tapi_Tx):List (List Int):=t.2.2.1.flatMap ZjY++if cbS t=true then[] else t.2.1.flatMap inE
def elS (b:Tapi_Block):List (List Int):=b.2.flatMap txE
def ZkX (b:Tapi_Block):Prop:=b.2.length≤256∧∀ t∈b.2,t.2.1.length≤100∧t.2.2.1.length≤100∧∀ o∈t.2.2.1,o.2.length≤100000
theorem Zmk (o:Tapi_Output):(ZjY o).length≤1:=by unfold ZjY; split <;> simp
theorem ZyT {t:Tapi_Tx}(h:t.2.1.length≤100∧t.2.2.1.length≤100):(txE t).length≤200:=by
 have h1:=ZcW ZjY 1 t.2.2.1 fun o _=>Zmk o
 have h2:=ZcW inE 1 t.2.1 fun o _=>by simp[inE]
 unfold txE;split <;> simp only[List.length_append,List.length_nil] <;> omega
theorem ZtT {b:Tapi_Block}(h:ZkX b) (i:Nat):((b.2.take i).flatMap txE).length≤51200:=by
 have h1:=ZcW txE 200 (b.2.take i) fun t ht=>ZyT ⟨(h.2 t (List.mem_of_mem_take ht)).1,(h.2 t (List.mem_of_mem_take ht)).2.1⟩
 have h2:=h.1;rw[List.length_take] at h1;omega
theorem ZsP {t:Tapi_Tx}(h:t.2.1.length≤100∧t.2.2.1.length≤100∧∀ o∈t.2.2.1,o.2.length≤100000) (acc:List (List Int)) (ha:acc.length≤1000000) (p:Int)
  {step:Int×List (List Int)→Option ((Int×List (List Int)) ⊕ ((Int×List (List Int)) ⊕ List (List Int)))}{K2:List (List Int)→Option ((Int×List (List Int)) ⊕ List (List Int))}{Cl:List Int→Option (List Int)}
  (hs:∀ p108 p109,step (p108,p109)=if p108<(t.2.2.1.length:Int) then(idx (t.2.2.1) (p108)).bind fun x131=>(if 0<(x131.2.length:Int) then(Cl x131.2).bind fun y135=>(chk (p109.length+1≤5864062014805)).bind fun _=>some (.inl (IntKind.i64.wrap (p108+1),p109++[y135])) else some (.inl (IntKind.i64.wrap (p108+1),p109))) else(K2 p109).map Sum.inr)
  (hC:∀ s:List Int,s.length≤100000→Cl s=some s):Zd step (0,acc)=K2 (acc++t.2.2.1.flatMap ZjY):=by
 refine ZlO t.2.2.1 ZjY acc ?_ ?_
 ·intro i hi
  have hl:=ZcW ZjY 1 (t.2.2.1.take i) fun o _=>Zmk o
  rw[List.length_take] at hl;rw[hs,if_pos (by omega),Zi hi,Zp hi (by omega)];unfold ZjY;by_cases h0:0<t.2.2.1[i].2.length
  ·rw[if_pos (by omega),if_pos h0,hC _ (h.2.2 _ (List.getElem_mem hi)),Za]
   refine Zj ?_;have:(acc++(t.2.2.1.take i).flatMap ZjY).length≤1000100:=by rw[List.length_append]; omega
   unfold ZjY at this;omega
  ·rw[if_neg (by omega),if_neg h0,List.append_nil]
 ·rw[hs,if_neg (by omega)]
theorem ZtU {t:Tapi_Tx}(h:t.2.1.length≤100∧t.2.2.1.length≤100∧∀ o∈t.2.2.1,o.2.length≤100000) (acc:List (List Int)) (ha:acc.length≤1000000)
  {step:Int×List (List Int)→Option ((Int×List (List Int)) ⊕ ((Int×List (List Int)) ⊕ List (List Int)))}{K3:List (List Int)→Option ((Int×List (List Int)) ⊕ List (List Int))}{Pt:Tapi_OutPoint→Option (List Int)}
  (hs:∀ p123 p124,step (p123,p124)=if p123<(t.2.1.length:Int) then(idx (t.2.1) (p123)).bind fun x128=>(Pt x128.1).bind fun y129=>(chk (p124.length+1≤5864062014805)).bind fun _=>some (.inl (IntKind.i64.wrap (p123+1),p124++[y129])) else(K3 p124).map Sum.inr)
  (hP:∀ o,Pt o=some (ZkW o)):Zd step (0,acc)=K3 (acc++t.2.1.flatMap inE):=by
 refine ZlO t.2.1 inE acc ?_ ?_
 ·intro i hi
  have hl:=ZcW inE 1 (t.2.1.take i) fun o _=>by simp[inE]
  rw[List.length_take] at hl;have:(acc++(t.2.1.take i).flatMap inE).length≤1000100:=by rw[List.length_append]; omega
  rw[hs,if_pos (by omega),Zi hi,Zp hi (by omega),hP,Za,Zj (by omega)];rfl
 ·rw[hs,if_neg (by omega)]
theorem Ztn {b:Tapi_Block}(h:ZkX b):Zb5 b=some (elS b):=by
 unfold Zb5;refine ZlO b.2 txE [] ?_ ?_
 ·intro i hi
  have hp:=ZtT h i;have hb:=h.1;have ht:=h.2 _ (List.getElem_mem hi);simp only[Zeh,List.nil_append];rw[if_pos (by omega),Zi hi];generalize hacc:(b.2.take i).flatMap txE=acc at hp ⊢;refine(ZsP ht acc (by omega) (i:Int) (K2:=XB b.2[i] (i:Int)) (Cl:=Yv) (fun p q=>rfl) (fun s hs=>?_)).trans ?_
  ·unfold Yv
   exact Zj (by omega)
  ·have hl:=ZcW ZjY 1 b.2[i].2.2.1 fun o _=>Zmk o
   unfold XB;rw[ZrI,Za,Zp hi (by omega),txE];by_cases hc:cbS b.2[i]=true
   ·rw[if_pos hc,if_pos hc,List.append_nil]
   ·rw[if_neg hc,if_neg hc]
    refine(ZtU ht _ (by rw[List.length_append]; omega) (K3:=XA (i:Int)) (Pt:=ZfR) (fun p q=>rfl) Zst).trans ?_;unfold XA;rw[Zp hi (by omega),List.append_assoc]
 ·simp only[Zeh,List.nil_append]
  rw[if_neg (by omega)];rfl
theorem ZsQ {b:Tapi_Block}(h:ZkX b):ZcN b=some (elS b):=by
 unfold ZcN;refine ZlO b.2 txE [] ?_ ?_
 ·intro i hi
  have hp:=ZtT h i;have hb:=h.1;have ht:=h.2 _ (List.getElem_mem hi);simp only[ZeP,List.nil_append];rw[if_pos (by omega),Zi hi];generalize hacc:(b.2.take i).flatMap txE=acc at hp ⊢;refine(ZsP ht acc (by omega) (i:Int) (K2:=Zaa b.2[i] (i:Int)) (Cl:=fun s=>Y0 [s]) (fun p q=>rfl) (fun s hs=>Zpz s (by omega))).trans ?_
  ·have hl:=ZcW ZjY 1 b.2[i].2.2.1 fun o _=>Zmk o
   unfold Zaa;rw[Zmf,Za,Zp hi (by omega),txE];by_cases hc:cbS b.2[i]=true
   ·rw[if_pos hc,if_pos hc,List.append_nil]
   ·rw[if_neg hc,if_neg hc]
    refine(ZtU ht _ (by rw[List.length_append]; omega) (K3:=X9 (i:Int)) (Pt:=Zbf) (fun p q=>rfl) Zop).trans ?_;unfold X9;rw[Zp hi (by omega),List.append_assoc]
 ·simp only[ZeP,List.nil_append]
  rw[if_neg (by omega)];rfl
def ZsR (b:Tapi_Block):Prop:=∀ t∈b.2,(∀ x∈t.2.1,Byt x.1.1.l)∧∀ o∈t.2.2.1,Byt o.2
theorem Zri {b:Tapi_Block}(h:ZkX b) (hb:ZsR b):ZnK (elS b):=by
 intro x hx;obtain⟨t,ht,hx⟩:=List.mem_flatMap.1 hx;obtain⟨h1,h2⟩:=hb t ht;have h3:=(h.2 t ht).2.2;rw[txE,List.mem_append] at hx;rcases hx with hx | hx
 ·obtain⟨o,ho,hx⟩:=List.mem_flatMap.1 hx
  unfold ZjY at hx;split at hx
  ·obtain rfl:=List.mem_singleton.1 hx
   exact⟨h2 o ho,h3 o ho⟩
  ·cases hx
 ·split at hx
  ·cases hx
  ·obtain⟨y,hy,hx⟩:=List.mem_flatMap.1 hx
   obtain rfl:=List.mem_singleton.1 hx;exact⟨ZyP (h1 y hy) (ZxG _ _),by simp⟩
end
section
set_option maxRecDepth 100000
abbrev M64 (x:Int):Prop:=0≤x∧x≤18446744073709551615
def dg (a:Arr 4):Prop:=∀ i,i<4→M64 (a.at i)
theorem dg_zero:dg (zA 4):=by
 intro i hi;have:i=0∨i=1∨i=2∨i=3:=by omega
 rcases this with rfl | rfl | rfl | rfl <;> exact⟨by decide,by decide⟩
theorem ZgB {a:Arr 4}(h:dg a){j:Nat}(hj:j<4){x:Int}(hx:M64 x):dg (a.put j x):=by
 intro i hi;by_cases e:j=i
 ·subst e
  rw[Arr.at_put _ hi];exact hx
 ·rw[Arr.at_put_ne _ e]
  exact h i hi
theorem ZiS (x:Int):M64 (IntKind.u64.wrap x):=ZnJ x
theorem ZjZ (op:BinOp) (x y:Int):M64 (bits op .u64 x y):=ZpB op x y
theorem ZoZ {n:Int}(h:M64 n):dg ((zA 4).put 0 n):=ZgB dg_zero (by omega) h
theorem Zgj {n:Int}(h:0≤n) (m:Int):n.tdiv m=n / m:=Int.tdiv_eq_ediv_of_nonneg h
theorem Zec {n:Int}(h:0≤n) (m:Int):n.tmod m=n % m:=Int.tmod_eq_emod_of_nonneg h
theorem ZlP (a:Arr 4){n:Int}(h0:0≤n) (h1:n<256):Tot (Zbl a n) fun _=>True:=by
 unfold Zbl;rw[Zgj h0,Zec h0,wi (n / 64) (by omega)];refine YU (by omega) (by omega) fun j _ hj=>Zv (by omega) (Zb trivial)
theorem ZtV (a:Arr 4):Tot (Zch a) fun r=>0≤r∧r≤256:=by
 unfold Zch;refine ZJ (I:=fun(n:Nat) (s:Int)=>s+1=(n:Int)∧s≤255) (n:=256) ?_ ⟨by omega,by omega⟩;rintro n s ⟨hs,hs2⟩
 simp only[Zi1];refine Zh (fun h=>?_) (fun h=>?_)
 ·refine(ZlP a h (by omega)).bind fun y _=>Zh (fun _=>?_) (fun _=>?_)
  ·exact Zb (show 0≤IntKind.i64.wrap (s+1)∧IntKind.i64.wrap (s+1)≤256 by rw[wi (s+1) (by omega)]; omega)
  ·exact Zb ⟨n-1,by omega,by rw[wi _ (by omega)]; omega,by rw[wi _ (by omega)]; omega⟩
 ·exact Tot.out (Zb (by omega))
theorem ZoB {x y c:Int}(hx:M64 x) (hy:M64 y) (hc:0≤c∧c≤1):Tot (Xn x y c) fun r=>M64 r.1∧0≤r.2∧r.2≤1:=by
 unfold Xn;exact Zv (by omega) (Zb ⟨by simp only; omega,by simp only; omega⟩)
theorem ZtW {a b:Arr 4}(ha:dg a) (hb:dg b):Tot (Zf6 a b) fun r=>dg r.1:=by
 unfold Zf6;refine ZJ (I:=fun(n:Nat) (s:Int×Int×Arr 4)=>s.2.1+(n:Int)=4∧0≤s.2.1∧(0≤s.1∧s.1≤1)∧dg s.2.2) (n:=4) ?_ ⟨by simp,by simp,by simp,dg_zero⟩;rintro n ⟨c,i,r⟩ ⟨h1,h2,h3,h4⟩
 dsimp only at h1 h2 h3 h4;simp only[Zk7];refine Zh (fun h=>?_) (fun h=>?_)
 ·refine YU h2 h fun j hj hj4=>?_
  refine(ZoB (ha j hj4) (hb j hj4) h3).bind fun y hy=>Zb ⟨n-1,by omega,?_,?_,hy.2,ZgB h4 hj4 hy.1⟩
  ·dsimp only
   rw[wi _ (by omega)];omega
  ·dsimp only
   rw[wi _ (by omega)];omega
 ·exact Tot.out (Zb h4)
theorem ZtX {a:Arr 4}(ha:dg a){n:Int}(hn:n≤100000):Tot (Zf7 a n) dg:=by
 unfold Zf7;refine Zh (fun _=>Zb dg_zero) (fun h=>?_);refine ZJ (I:=fun(k:Nat) (s:Int×Arr 4)=>s.1≤(k:Int)∧s.1≤100000∧dg s.2) (n:=n.toNat) ?_ ⟨by dsimp only; omega,hn,ha⟩;rintro k ⟨i,r⟩ ⟨h1,h1b,h2⟩
 dsimp only at h1 h1b h2;simp only[Lref02_Shl_s1];refine Zh (fun h=>?_) (fun h=>?_)
 ·refine(ZtW h2 h2).bind fun y hy=>Zb ⟨k-1,by omega,?_,?_,hy⟩
  ·dsimp only
   rw[wi _ (by omega)];omega
  ·dsimp only
   rw[wi _ (by omega)];omega
 ·exact Tot.out (Zb h2)
theorem Zo0 {a:Arr 4}(ha:dg a) (n:Int):Tot (Zbm a n) dg:=by
 unfold Zbm;refine Zh (fun _=>Zb ha) (fun h=>Zh (fun _=>Zb dg_zero) (fun h'=>?_));refine ZJ (I:=fun(k:Nat) (s:Int×Arr 4)=>s.1+(k:Int)=256∧0≤s.1∧dg s.2) (n:=256) ?_ ⟨by simp,by simp,dg_zero⟩;rintro k ⟨i,r⟩ ⟨h1,h2,h3⟩
 dsimp only at h1 h2 h3;simp only[Zi0,Zet];rw[wi (i+n) (by omega)];refine Zh (fun h=>?_) (fun h=>?_)
 ·refine(ZlP a (by omega) h).bind fun y _=>Zh (fun _=>?_) (fun _=>?_)
  ·rw[Zgj h2,Zec h2,wi (i / 64) (by omega)]
   refine YU (by omega) (by omega) fun j hj hj4=>Zv (by omega) (Zb ⟨k-1,by omega,?_,?_,ZgB h3 hj4 (ZjZ _ _ _)⟩)
   ·dsimp only
    rw[wi _ (by omega)];omega
   ·dsimp only
    rw[wi _ (by omega)];omega
  ·refine Zb ⟨k-1,by omega,?_,?_,h3⟩
   ·dsimp only
    rw[wi _ (by omega)];omega
   ·dsimp only
    rw[wi _ (by omega)];omega
 ·exact Tot.out (Zb h3)
theorem ZrC (a:Arr 32):Tot (ZaV a) dg:=by
 unfold ZaV;refine ZJ (I:=fun(k:Nat) (s:Int×Arr 4)=>s.1+(k:Int)=32∧0≤s.1∧dg s.2) (n:=32) ?_ ⟨by simp,by simp,dg_zero⟩;rintro k ⟨i,r⟩ ⟨h1,h2,h3⟩
 dsimp only at h1 h2 h3;simp only[Zg7];refine Zh (fun h=>?_) (fun h=>?_)
 ·rw[wi (31-i) (by omega),Zgj (by omega),Zec (by omega),wi ((31-i) / 8) (by omega),wi (8 * ((31-i) % 8)) (by omega)]
  refine YU (by omega) (by omega) fun j hj hj4=>YU h2 h fun j2 hj2 _=>Zv (by omega) (Zb ⟨k-1,by omega,?_,?_,ZgB h3 hj4 (ZjZ _ _ _)⟩)
  ·dsimp only
   rw[wi _ (by omega)];omega
  ·dsimp only
   rw[wi _ (by omega)];omega
 ·exact Tot.out (Zb h3)
theorem Zml (a:Arr 4):Tot (Zcg a) fun _=>True:=Zb trivial
theorem ZlQ (a b:Arr 4):Tot (Xm a b) fun _=>True:=by
 unfold Xm;refine ZJ (I:=fun(n:Nat) (s:Int)=>s+1=(n:Int)∧s≤3) (n:=4) ?_ ⟨by omega,by omega⟩;rintro n s ⟨hs,hs2⟩
 simp only[Zk2];refine Zh (fun h=>?_) (fun h=>?_)
 ·refine YU h (by omega) fun j _ hj=>Zh (fun _=>Zb trivial) (fun _=>Zh (fun _=>Zb trivial) (fun _=>?_))
  exact Zb ⟨n-1,by omega,by rw[wi _ (by omega)]; omega,by rw[wi _ (by omega)]; omega⟩
 ·exact Tot.out (Zb trivial)
theorem ZnM (n:Int):Zav n=some ((zA 4).put 0 n):=rfl
abbrev M32 (x:Int):Prop:=0≤x∧x≤4294967295
theorem ZnN {n:Int}(hn:M32 n):Tot (ZbM n) fun r=>dg r.1:=by
 unfold ZbM;have f1:n.fdiv 16777216=n / 16777216:=by rw[Int.fdiv_eq_ediv_of_nonneg _ (by omega)]
 rw[f1];have hx:0≤n / 16777216∧n / 16777216≤255:=by omega
 generalize n / 16777216=x at hx
 have hk:∀ p,dg p→Tot (ZdZ p) fun r=>dg r.1:=by
  intro p hp;unfold ZdZ;exact(Zml p).bind fun y _=>Zh (fun _=>Zb dg_zero) (fun _=>Zb hp)
 rw[ZnM,Za,wi x (by omega)];have hm:=ZoZ (ZiS (bits .and .u32 n 16777215));refine Zh (fun _=>Zb dg_zero) (fun _=>Zh (fun h=>?_) (fun h=>?_))
 ·exact(Zo0 hm _).bind fun y hy=>hk y hy
 ·refine(Zml _).bind fun y _=>?_
  rw[wi (x-3) (by omega),wi (8 * (x-3)) (by omega)]
  have h5:Tot (if ¬ (y=true) then(Zch ((zA 4).put 0 (IntKind.u64.wrap (bits .and .u32 n 16777215)))).bind fun y11=>some (decide (256<IntKind.i64.wrap (y11+8 * (x-3)))) else some false) fun _=>True :=
   Zh (fun _=>(ZtV _).bind fun z _=>Zb trivial) (fun _=>Zb trivial)
  refine h5.bind fun z _=>Zh (fun _=>Zb dg_zero) (fun _=>?_)
  exact(ZtX hm (by omega)).bind fun q hq=>hk q hq
theorem Zrj (a:Arr 32){n:Int}(hn:M32 n):Tot (Zd0 a n) fun _=>True:=by
 unfold Zd0;refine(ZnN hn).bind fun y _=>?_
 have h5:Tot (if y.2=0 then(ZaV a).bind fun y2=>(Xm y2 y.1).bind fun y3=>some (decide (y3≤0)) else some false) fun _=>True :=
  Zh (fun _=>(ZrC a).bind fun z _=>(ZlQ _ _).bind fun q _=>Zb trivial) (fun _=>Zb trivial)
 exact h5.bind fun z _=>Zb trivial
theorem Zwi (op:BinOp) (x y:Int):M32 (bits op .u32 x y):=by
 show M32 (IntKind.u32.wrap _)
 rw[ZnI];omega
end
section
set_option maxRecDepth 100000
theorem ZAC (L:List (List Int)) (hl:L.length≤1000000) (h:(L.flatMap id).length≤1000000000):Y0 L=some (L.flatMap id):=by
 unfold Y0;refine ZlO L id [] ?_ ?_
 ·intro i hi
  have h1:=ZeZ L id (i+1);rw[Zbv id hi,List.length_append] at h1;simp only[Zak,List.nil_append];rw[if_pos (by omega),Zi hi,Zae (by simp only[id] at h1 ⊢; omega),Za,Zp hi (by omega)];rfl
 ·simp only[Zak,List.nil_append]
  rw[if_neg (by omega)];rfl
noncomputable def ZrJ (t:Tapi_Tx):Arr 32:=if Ye t=true then Zbb (Zbb (Xc t true)).l else zA 32
theorem ZsS (t:Tapi_Tx):ZgS t=some (ZrJ t):=by
 unfold ZgS ZrJ;rw[Zgh,Za];by_cases h:Ye t=true
 ·have hb:=Zii h
  rw[if_neg (by simp[h]),if_pos h,ZlB (Zkv h),Za,Znd (by omega)];rfl
 ·rw[if_pos h,if_neg h]
noncomputable def ZrK (a b:Arr 32):Arr 32:=Zbb ([1]++(a.l++b.l))
theorem ZtY (a b:Arr 32):ZgT a b=some (ZrK a b):=by
 unfold ZgT;have ha:=a.hl;have hb:=b.hl;rw[ZAC _ (by simp) (by simp[ha,hb]),Za,Zjs (by simp[ha,hb]),Za];simp[ZrK]
theorem ZuZ (l:List (Arr 32)) (h1:1≤l.length) (h2:l.length≤1024):Tot (ZbN l) fun r=>(1≤r.length∧r.length≤1025)∧∀ x∈r,1≤x.length:=by
 unfold ZbN;refine ZJ (I:=fun(n:Nat) (s:List (Arr 32)×List (List (Arr 32)))=>s.1.length≤n∧1≤s.1.length∧1≤s.2.length∧s.2.length+s.1.length≤1025∧∀ x∈s.2,1≤x.length) (n:=1024) ?_ ⟨h2,h1,by simp,by simp; omega,by simpa using h1⟩;rintro n ⟨p,q⟩ ⟨k1,k2,k3,k4,k5⟩
 dsimp only at k1 k2 k3 k4 k5;simp only[Lref07_levels_s1];refine Zh (fun h=>?_) (fun h=>Tot.out (Zb ⟨⟨k3,by omega⟩,k5⟩));refine ZJ (I:=fun(m:Nat) (s:Int×List (Arr 32))=>s.1=2 * (s.2.length:Int)∧s.1<p.length+2∧(p.length:Int)+2≤s.1+(m:Int)) (n:=p.length+2) ?_ ⟨by simp,by simp; omega,by simp⟩;rintro m ⟨i,acc⟩ ⟨g1,g2,g3⟩
 dsimp only at g1 g2 g3;simp only[Zd3,Zb8];refine Zh (fun hlt=>?_) (fun hlt=>?_)
 ·rw[wi (i+1) (by omega)]
  refine Zh (fun hlt2=>?_) (fun hlt2=>?_)
  ·refine XV (by omega) hlt fun x _=>XV (by omega) hlt2 fun y _=>?_
   rw[ZtY,Za];refine Zv (by omega) (Zb ⟨m-2,by omega,?_,?_,?_⟩)
   ·dsimp only
    rw[wi _ (by omega)];simp
    omega
   ·dsimp only
    rw[wi _ (by omega)];omega
   ·dsimp only
    rw[wi _ (by omega)];omega
  ·refine XV (by omega) hlt fun x _=>?_
   refine Zv (by omega) (Zb ⟨m-2,by omega,?_,?_,?_⟩)
   ·dsimp only
    rw[wi _ (by omega)];simp
    omega
   ·dsimp only
    rw[wi _ (by omega)];omega
   ·dsimp only
    rw[wi _ (by omega)];omega
 ·refine Tot.out ?_
  unfold Zd2;refine Zv (by omega) (Zb ⟨n-1,by omega,?_,?_,?_,?_,?_⟩)
  ·dsimp only
   omega
  ·dsimp only
   omega
  ·simp
  ·simp only[List.length_append,List.length_singleton]
   omega
  ·intro x hx
   simp only[List.mem_append,List.mem_singleton] at hx;rcases hx with hx | rfl
   ·exact k5 x hx
   ·omega
theorem Zwj (l:List (Arr 32)):Tot (Zds l) fun _=>True:=by
 unfold Zds;refine Zh (fun _=>Zb trivial) (fun h=>?_);refine(ZuZ l (by omega) (by omega)).bind fun y hy=>?_
 rw[wi _ (by omega)];refine YU (by omega) (by omega) fun j _ hj=>ZcV hj fun x hx=>?_
 have:=hy.2 x (List.mem_of_getElem? hx);exact ZcV (by omega) fun z _=>Zb trivial
theorem Zqd (l:List Tapi_Tx) (hl:l.length≤1000000):Tot (Zci l) fun _=>True:=by
 unfold Zci;refine ZJ (I:=fun(n:Nat) (s:Int×List (Arr 32))=>s.1+(n:Int)=(l.length:Int)∧(s.2.length:Int)=s.1) (n:=l.length) ?_ ⟨by simp,by simp⟩;rintro n ⟨i,acc⟩ ⟨h1,h2⟩
 dsimp only at h1 h2;simp only[Zfx];refine Zh (fun h=>?_) (fun h=>?_)
 ·refine XV (by omega) h fun x _=>?_
  rw[ZsS,Za];refine Zv (by omega) (Zb ⟨n-1,by omega,?_,?_⟩)
  ·dsimp only
   rw[wi _ (by omega)];omega
  ·dsimp only
   rw[wi _ (by omega)];simp
   omega
 ·refine Tot.out ?_
  unfold Zfw;exact(Zwj _).bind fun _ _=>Zb trivial
theorem ZkM {b:Tapi_Block}(h:ZiR b=true):b.2.length≤256∧(∀ t∈b.2,Ye t=true)∧Zi6 b=(Zmj b,0):=by
 classical
 unfold ZiR at h;have h:=of_decide_eq_true h;unfold Zi6 at h ⊢;by_cases c1:256<b.2.length
 ·rw[if_pos c1] at h; simp at h
 rw[if_neg c1] at h ⊢;by_cases c2:∃ t∈b.2,¬ Ye t=true
 ·rw[if_pos c2] at h; simp at h
 rw[if_neg c2] at h ⊢;by_cases c3:100000<(Zmj b).length
 ·rw[if_pos c3] at h; simp at h
 rw[if_neg c3];exact⟨by omega,fun t ht=>Decidable.byContradiction fun c=>c2 ⟨t,ht,c⟩,rfl⟩
theorem Zar {α ρ:Type}{step:Int→Option (Int ⊕ ρ)}{Q:ρ→Prop}(l:List α) (J:Nat→Prop) (hl:l.length≤1000000000) (h0:J 0)
  (h:∀ i (hi:i<l.length),J i→Tot (step (i:Int)) fun | .inl s=>s=((i+1:Nat):Int)∧J (i+1) | .inr r=>Q r)
  (he:J l.length→∃ r,step (l.length:Int)=some (.inr r)∧Q r):Tot (Zd step 0) Q:=by
 refine ZJ (I:=fun(n:Nat) (s:Int)=>∃ i:Nat,s=i∧i+n=l.length∧J i) (n:=l.length) ?_ ⟨0,rfl,by simp,h0⟩;rintro n _ ⟨i,rfl,hi,hJ⟩
 by_cases hlt:i<l.length
 ·refine(h i hlt hJ).mono fun x hx=>?_
  cases x with
  | inl s=>exact⟨n-1,by omega,i+1,hx.1,by omega,hx.2⟩
  | inr r=>exact hx
 ·obtain rfl:i=l.length:=by omega
  obtain⟨r,hr,hq⟩:=he hJ;exact⟨.inr r,hr,hq⟩
theorem Zrk (ids:List (Arr 32)) (a:Arr 32) (hl:ids.length≤1000000):Tot (Zbo ids a) fun r=>-1≤r∧r<1000000:=by
 unfold Zbo;refine Zar ids (fun _=>True) (by omega) trivial ?_ ?_
 ·intro i hi _
  simp only[Zbn];rw[if_pos (by omega),Zi hi];refine Zh (fun _=>Zb (by dsimp only; omega)) (fun _=>Zb ⟨Zp hi (by omega),trivial⟩)
 ·intro _
  simp only[Zbn];rw[if_neg (by omega)];exact⟨-1,rfl,by omega⟩
theorem Zpd {b:Tapi_Block}(hb:b.2.length≤256) (ht:∀ t∈b.2,t.2.1.length≤1000) (ids:List (Arr 32)) (hl:ids.length≤1000000):Tot (Za3 b ids) fun _=>True:=by
 unfold Za3;refine Zar b.2 (fun _=>True) (by omega) trivial ?_ ?_
 ·intro i hi _
  have h1:=ht _ (List.getElem_mem hi);simp only[Zdc];rw[if_pos (by omega),Zi hi];refine Zar b.2[i].2.1 (fun _=>True) (by omega) trivial ?_ ?_
  ·intro j hj _
   simp only[ZbA];rw[if_pos (by omega),Zi hj];refine(Zrk ids _ hl).bind fun y _=>Zh (fun _=>Zb (by trivial)) (fun _=>Zb ⟨Zp hj (by omega),trivial⟩)
  ·intro _
   simp only[ZbA];rw[if_neg (by omega)];exact⟨.inl ((i+1:Nat):Int),by simp only[Zbz]; rw[Zp hi (by omega)]; rfl,rfl,trivial⟩
 ·intro _
  simp only[Zdc];rw[if_neg (by omega)];exact⟨false,rfl,trivial⟩
theorem Zwk {b:Tapi_Block}(hb:b.2.length≤256) (ht:∀ t∈b.2,t.2.1.length≤1000):Tot (Zcx b) fun _=>True:=by
 unfold Zcx;refine ZJ (I:=fun(n:Nat) (s:Int×List Tapi_OutPoint)=>s.1+(n:Int)=(b.2.length:Int)∧0≤s.1∧(s.2.length:Int)≤s.1 * 1000) (n:=b.2.length) ?_ ⟨by simp,by simp,by simp⟩;rintro n ⟨i,acc⟩ ⟨h1,h2,h3⟩
 dsimp only at h1 h2 h3;simp only[ZeN];refine Zh (fun h=>?_) (fun h=>Tot.out (Zb trivial));refine XV h2 h fun t htm=>?_
 have h4:=ht t htm;refine ZJ (I:=fun(m:Nat) (s:Int×List Tapi_OutPoint)=>s.1+(m:Int)=(t.2.1.length:Int)∧0≤s.1∧(s.2.length:Int)≤i * 1000+s.1) (n:=t.2.1.length) ?_ ⟨by simp,by simp,by simp; omega⟩;rintro m ⟨j,acc⟩ ⟨g1,g2,g3⟩
 dsimp only at g1 g2 g3;simp only[Zbp];refine Zh (fun hj=>?_) (fun hj=>?_)
 ·refine XV g2 hj fun x _=>?_
  refine Zar acc (fun _=>True) (by omega) trivial ?_ ?_
  ·intro k hk _
   simp only[XN];rw[if_pos (by omega),YE hk,ZhF hk];exact Zh (fun _=>Zb (by trivial)) (fun _=>Zb ⟨Zp hk (by omega),trivial⟩)
  ·intro _
   simp only[XN];rw[if_neg (by omega)];simp only[XM];rw[Zj (by omega),wi _ (by omega)];exact⟨.inl (j+1,acc++[x.1]),rfl,m-1,by omega,by dsimp only; omega,by dsimp only; omega,by simp; omega⟩
 ·refine Tot.out (Zb ⟨n-1,by omega,?_,?_,?_⟩)
  ·dsimp only
   rw[wi _ (by omega)];omega
  ·dsimp only
   rw[wi _ (by omega)];omega
  ·dsimp only
   rw[wi _ (by omega)];omega
structure Zu0 (b:Tapi_Block):Prop where
 fits:ZiR b=true
 ne:b.2≠[]
 cb:∀ i (h:i<b.2.length),cbS b.2[i]=decide (i=0)
 chk:∀ t∈b.2,ZiO t=0
structure ZqB (b:Tapi_Block):Prop extends Zu0 b where
 ok:X8 b=some 0
theorem ZsT (b:Tapi_Block):Tot (X8 b) fun r=>r=0→Zu0 b:=by
 unfold X8;rw[ZpC,Za];refine Zh (fun _=>Zb (by simp)) (fun hf=>?_);have hf:ZiR b=true:=by simpa using hf
 obtain⟨hb,hft,-⟩:=ZkM hf;have hin:∀ t∈b.2,t.2.1.length≤1000:=fun t ht=>by have:=(Zji (hft t ht)).1; omega
 refine Zh (fun _=>Zb (by simp)) (fun hne=>?_);have hne':b.2≠[]:=by rintro h; rw[h] at hne; simp at hne
 refine Zar b.2 (fun n=>∀ i (h:i<b.2.length),i<n→cbS b.2[i]=decide (i=0)) (by omega) (fun i _ h=>absurd h (by omega)) ?_ ?_
 ·intro i hi hJ
  simp only[ZcM];rw[if_pos (by omega),Zi hi,Zmf,Za];refine Zh (fun _=>Zb (by simp)) (fun hc=>Zb ⟨Zp hi (by omega),fun k hk hk2=>?_⟩);by_cases e:k=i
  ·subst e
   have hc:(cbS b.2[k] == decide ((k:Int)=0))=true:=by simpa using hc
   have:=eq_of_beq hc;rw[this]
   congr 1
   simp
  ·exact hJ k hk (by omega)
 ·intro hcb
  simp only[ZcM];rw[if_neg (by omega)];refine Tot.inr ?_;unfold Zaw;refine Zar b.2 (fun n=>∀ i (h:i<b.2.length),i<n→ZiO b.2[i]=0) (by omega) (fun i _ h=>absurd h (by omega)) ?_ ?_
  ·intro i hi hJ
   simp only[ZcL];rw[if_pos (by omega),Zi hi,Zou,Za];refine Zh (fun hc=>Zb (by intro h; exact absurd h hc)) (fun hc=>Zb ⟨Zp hi (by omega),fun k hk hk2=>?_⟩);by_cases e:k=i
   ·subst e
    simpa using hc
   ·exact hJ k hk (by omega)
  ·intro hck
   have hB:Zu0 b:=⟨hf,hne',fun i h=>hcb i h h,fun t ht=>by
    obtain⟨i,hi,rfl⟩:=List.getElem_of_mem ht
    exact hck i hi hi⟩
   simp only[ZcL];rw[if_neg (by omega)];refine Tot.inr (Tot.mono (P:=fun _=>True) ?_ fun _ _ _=>hB);unfold XP;refine ZJ (I:=fun(n:Nat) (s:Int×List (Arr 32))=>s.1+(n:Int)=(b.2.length:Int)∧(s.2.length:Int)=s.1) (n:=b.2.length) ?_ ⟨by simp,by simp⟩;rintro n ⟨i,ids⟩ ⟨h1,h2⟩
   dsimp only at h1 h2;simp only[Zbq];refine Zh (fun h=>?_) (fun h=>?_)
   ·refine XV (by omega) h fun x _=>?_
    rw[Zoz,Za];refine(Zrk ids _ (by omega)).bind fun y _=>Zh (fun _=>Zb trivial) (fun _=>?_)
    refine Zv (by omega) (Zb ⟨n-1,by omega,?_,?_⟩)
    ·dsimp only
     rw[wi _ (by omega)];omega
    ·dsimp only
     rw[wi _ (by omega)];simp
     omega
   ·refine Tot.out ?_
    unfold XO;refine(Zpd hb hin ids (by omega)).bind fun y _=>Zh (fun _=>Zb trivial) (fun _=>?_)
    refine(Zwk hb hin).bind fun y _=>Zh (fun _=>Zb trivial) (fun _=>?_)
    exact(Zqd b.2 (by omega)).bind fun y _=>Zh (fun _=>Zb trivial) (fun _=>Zb trivial)
theorem Zpe (b:Tapi_Block):Tot (X8 b) fun r=>r=0→ZqB b:=by
 obtain⟨r,hr,h⟩:=ZsT b;exact⟨r,hr,fun h0=>⟨h h0,h0 ▸ hr⟩⟩
end
section
set_option maxRecDepth 100000
structure PrmOk (p:Tapi_Params):Prop where
 bits:M32 p.1.2.2.2.2.1
 lim:dg p.2.1
 win:1≤p.2.2.1∧p.2.2.1≤4096
 spa:1≤p.2.2.2.1∧p.2.2.2.1≤1048576
 cps:p.2.2.2.2.2.2.1=[]
 sub:0≤p.2.2.2.2.2.2.2.1∧p.2.2.2.2.2.2.2.1≤2100000000000000
 hal:1≤p.2.2.2.2.2.2.2.2.1∧p.2.2.2.2.2.2.2.2.1≤16777216
theorem Zff {p:Tapi_Params}(h:PrmOk p):Tot (Xr p) fun _=>True:=by
 unfold Xr;refine(Zml _).bind fun y _=>Zh (fun _=>Zb trivial) (fun _=>Zh (fun _=>Zb trivial) (fun _=>?_))
 refine Zar ([]:List Nat) (fun _=>True) (by simp) trivial (fun i hi=>absurd hi (by simp)) fun _=>?_
 simp only[ZjJ];rw[h.cps,if_neg (by simp)]
 have hk:Tot (Zhb p) fun _=>True:=by
  unfold Zhb;refine(ZnN h.bits).bind fun y _=>?_
  have h5:Tot (if y.2=0 then(Xm y.1 p.2.1).bind fun y17=>some (decide (y17≤0)) else some false) fun _=>True :=
   Zh (fun _=>(ZlQ _ _).bind fun z _=>Zb trivial) (fun _=>Zb trivial)
  exact h5.bind fun z _=>Zb trivial
 obtain⟨b,hb,-⟩:=hk;rw[hb];exact⟨b,rfl,trivial⟩
theorem Zpf {p:Tapi_Params}(h:PrmOk p){n:Int}(hn:n≤100000000):Tot (Zb7 p n) fun r=>0≤r∧r≤2100000000000000:=by
 unfold Zb7;refine(Zff h).bind fun y _=>Zh (fun _=>Zb (by omega)) (fun h0=>?_)
 have hn0:0≤n:=by
  apply Decidable.byContradiction
  intro c;exact h0 (.inr (by omega))
 have hh:=h.hal;have hs:=h.sub;refine Zv (by omega) ?_;have e:n.tdiv p.2.2.2.2.2.2.2.2.1=n / p.2.2.2.2.2.2.2.2.1:=Zgj hn0 _;have e2:0≤n / p.2.2.2.2.2.2.2.2.1:=Int.ediv_nonneg hn0 (by omega);have e3:n / p.2.2.2.2.2.2.2.2.1≤n:=Int.ediv_le_self _ hn0;rw[e,wi _ (by omega)];generalize n / p.2.2.2.2.2.2.2.2.1=k at e2 e3;refine ZJ (I:=fun(m:Nat) (s:Int×Int)=>(0≤s.1∧s.1≤2100000000000000)∧s.2≤(m:Int)∧0≤s.2∧s.2≤100000000) (n:=k.toNat) ?_ ⟨hs,by dsimp only; omega,e2,by dsimp only; omega⟩;rintro m ⟨s,j⟩ ⟨h1,h2,h3,h4⟩
 dsimp only at h1 h2 h3 h4;simp only[Lref23_Subsidy_s1];refine Zh (fun hc=>?_) (fun hc=>Tot.out (Zb h1));rw[Zgj h1.1,wi (s / 2) (by omega),wi (j-1) (by omega)];exact Zb ⟨m-1,by omega,by dsimp only; omega,by dsimp only; omega,by dsimp only; omega,by dsimp only; omega⟩
theorem Zrl (t:Tapi_Tx) (ht:t.2.1.length≤1000) (n:Int):Tot (ZaG t n) fun _=>True:=by
 unfold ZaG;refine Zh (fun _=>Zb trivial) (fun _=>?_);refine Zar t.2.1 (fun _=>True) (by omega) trivial ?_ ?_
 ·intro i hi _
  simp only[Zhc];rw[if_pos (by omega),Zi hi];exact Zh (fun _=>Zb (by trivial)) (fun _=>Zb ⟨Zp hi (by omega),trivial⟩)
 ·intro _
  simp only[Zhc];rw[if_neg (by omega)];exact⟨true,rfl,trivial⟩
theorem Zpg (a b:Tapi_OutPoint):Tot (Xa a b) fun _=>True:=by
 unfold Xa;refine ZJ (I:=fun(n:Nat) (s:Int)=>s+(n:Int)=32∧0≤s) (n:=32) ?_ ⟨by omega,by omega⟩;rintro n s ⟨h1,h2⟩
 simp only[Zim];refine Zh (fun h=>?_) (fun h=>?_)
 ·refine YU h2 h fun j _ hj=>Zh (fun _=>Zb trivial) (fun _=>Zh (fun _=>Zb trivial) (fun _=>?_))
  exact Zb ⟨n-1,by omega,by rw[wi _ (by omega)]; omega,by rw[wi _ (by omega)]; omega⟩
 ·refine Tot.out ?_
  unfold Zil;exact Zh (fun _=>Zb trivial) (fun _=>Zh (fun _=>Zb trivial) (fun _=>Zb trivial))
theorem Zwl (l:Tapi_Ledger) (hl:l.2.2.length≤1000000000):Tot (Zd4 l) fun _=>True:=by
 unfold Zd4;refine Zh (fun _=>Zb trivial) (fun h=>?_);refine ZJ (I:=fun(n:Nat) (s:Int×Int)=>s.2+(n:Int)=(l.2.2.length:Int)∧0≤s.2) (n:=l.2.2.length) ?_ ⟨by simp,by simp⟩;rintro n ⟨s,i⟩ ⟨h1,h2⟩
 dsimp only at h1 h2;simp only[ZjK];refine Zh (fun hi=>?_) (fun hi=>Tot.out (Zb trivial));refine XV h2 hi fun x _=>?_
 have h5:Tot (if 0<i then(idx (l.2.2) (IntKind.i64.wrap (i-1))).bind fun x18=>(Xa x18.1 x.1).bind fun y19=>some (decide (0≤y19)) else some false) fun _=>True:=by
  refine Zh (fun h0=>?_) (fun _=>Zb trivial);rw[wi _ (by omega)];exact XV (by omega) (by omega) fun y _=>(Zpg _ _).bind fun z _=>Zb trivial
 refine h5.bind fun z _=>Zh (fun _=>Zb trivial) (fun _=>Zh (fun _=>Zb trivial) (fun _=>Zh (fun _=>Zb trivial) (fun _=>?_)))
 exact Zb ⟨n-1,by omega,by dsimp only; rw[wi (i+1) (by omega)]; omega,by dsimp only; rw[wi (i+1) (by omega)]; omega⟩
theorem ZpD (l:List Tapi_Coin) (o:Tapi_OutPoint) (hl:l.length≤1000000000):Tot (Zdt l o) fun r=>(r<0∧∀ c∈l,c.1≠o)∨∃ i:Nat,∃ h:i<l.length,r=(i:Int)∧l[i].1=o:=by
 unfold Zdt;refine Zar l (fun n=>∀ i (h:i<l.length),i<n→l[i].1≠o) hl (fun i _ h=>absurd h (by omega)) ?_ ?_
 ·intro i hi hJ
  simp only[Zh5];rw[if_pos (by omega),Zi hi];refine Zh (fun hc=>Zb (.inr ⟨i,hi,rfl,Prod.ext hc.1 hc.2⟩)) (fun hc=>Zb ⟨Zp hi (by omega),fun k hk hk2=>?_⟩);by_cases e:k=i
  ·subst e
   exact fun c=>hc ⟨congrArg Prod.fst c,congrArg Prod.snd c⟩
  ·exact hJ k hk (by omega)
 ·intro hJ
  simp only[Zh5];rw[if_neg (by omega)];refine⟨-1,rfl,.inl ⟨by omega,fun c hc=>?_⟩⟩;obtain⟨i,hi,rfl⟩:=List.getElem_of_mem hc;exact hJ i hi hi
theorem Zph (c:Tapi_Coin) (h:c.2.1.2.length≤1000000):Zbr c=some c:=by
 unfold Zbr;rw[Zpz _ (by omega),Za]
end
section
set_option maxRecDepth 100000
def ScrM (s:List Int):Prop:=∃ j,(1≤j∧j≤6)∧s=[1,1,j,5]
def ZlC (c:Tapi_Coin):Prop:=Byt c.1.1.l∧ScrM c.2.1.2
theorem ScrM.len {s:List Int}(h:ScrM s):s.length=4:=by obtain⟨j,_,rfl⟩:=h; rfl
theorem ScrM.byt {s:List Int}(h:ScrM s):Byt s:=by
 obtain⟨j,hj,rfl⟩:=h;intro x hx;simp at hx
 omega
theorem ZmN (t:Tapi_Tx) (ht:t.2.2.1.length≤1000) (h:Int):Tot (Za4 t h) fun r=>r.length=t.2.2.1.length∧∀ c∈r,c.1.1=idS t∧∃ o∈t.2.2.1,c.2.1=o:=by
 unfold Za4;rw[Zoz,Za];refine ZJ (I:=fun(n:Nat) (s:Int×List Tapi_Coin)=>s.1+(n:Int)=(t.2.2.1.length:Int)∧(s.2.length:Int)=s.1∧∀ c∈s.2,c.1.1=idS t∧∃ o∈t.2.2.1,c.2.1=o) (n:=t.2.2.1.length) ?_ ⟨by simp,by simp,by simp⟩;rintro n ⟨i,acc⟩ ⟨h1,h2,h3⟩
 dsimp only at h1 h2 h3;simp only[Zio];refine Zh (fun hi=>?_) (fun hi=>?_)
 ·refine XV (by omega) hi fun o ho=>?_
  rw[Zmf,Za];refine Zv (by omega) (Zb ⟨n-1,by omega,?_,?_,?_⟩)
  ·dsimp only
   rw[wi _ (by omega)];omega
  ·dsimp only
   rw[wi _ (by omega)];simp
   omega
  ·intro c hc
   rcases List.mem_append.1 hc with hc | hc
   ·exact h3 c hc
   ·obtain rfl:=List.mem_singleton.1 hc
    exact⟨rfl,o,ho,rfl⟩
 ·exact Tot.out (Zb ⟨by omega,h3⟩)
theorem ZxI {l:List Tapi_Coin}{c:Tapi_Coin}(hl:l.length≤1000000) (hs:c.2.1.2.length≤1000000):Tot (Zcj l c) fun r=>r.length=l.length+1∧∀ x∈r,x∈l∨x=c:=by
 unfold Zcj;refine ZJ (I:=fun(n:Nat) (s:Int×List Tapi_Coin)=>s.1+(n:Int)=(l.length:Int)∧0≤s.1∧(s.2.length:Int)≤s.1∧∀ x∈s.2,x∈l) (n:=l.length) ?_ ⟨by simp,by simp,by simp,by simp⟩;rintro n ⟨i,acc⟩ ⟨h1,h2,h3,h4⟩
 dsimp only at h1 h2 h3 h4;simp only[Zkf,ZdE];refine Zh (fun hi=>?_) (fun hi=>?_)
 ·refine XV h2 hi fun x hx=>?_
  refine(Zpg _ _).bind fun y _=>Zh (fun _=>?_) (fun _=>?_)
  ·refine Zv (by omega) (Zb ⟨n-1,by omega,?_,?_,?_,?_⟩)
   ·dsimp only
    rw[wi _ (by omega)];omega
   ·dsimp only
    rw[wi _ (by omega)];omega
   ·dsimp only
    rw[wi _ (by omega)];simp
    omega
   ·intro z hz
    rcases List.mem_append.1 hz with hz | hz
    ·exact h4 z hz
    ·obtain rfl:=List.mem_singleton.1 hz
     exact hx
  ·refine Zb ⟨n-1,by omega,?_,?_,?_,h4⟩
   ·dsimp only
    rw[wi _ (by omega)];omega
   ·dsimp only
    rw[wi _ (by omega)];omega
   ·dsimp only
    rw[wi _ (by omega)];omega
 ·refine Tot.out ?_
  unfold Zke;rw[Zph c hs,Za];refine Zv (by omega) (Zv (by omega) (Zv (by simp; omega) (Zb ⟨?_,?_⟩)))
  ·simp
   omega
  ·intro x hx
   simp only[List.append_assoc,List.mem_append,List.mem_singleton] at hx;rcases hx with hx | hx | hx
   ·exact .inl (h4 x hx)
   ·exact .inr hx
   ·exact .inl (List.mem_of_mem_drop hx)
theorem Zwm {l:List Tapi_Coin}{t:Tapi_Tx}(hl:l.length≤200000) (ht:t.2.2.1.length≤1000) (hs:∀ o∈t.2.2.1,o.2.length≤1000000) (h:Int):Tot (Zh6 l t h) fun r=>r.2=0→r.1.length=l.length+t.2.2.1.length∧∀ c∈r.1,c∈l∨c.1.1=idS t∧∃ o∈t.2.2.1,c.2.1=o:=by
 unfold Zh6;refine(ZmN t ht h).bind fun y hy=>?_
 refine Zar y (fun _=>True) (by omega) trivial ?_ ?_
 ·intro i hi _
  simp only[Zi3];rw[if_pos (by omega),YE hi,ZhF hi];refine(ZpD l _ (by omega)).bind fun z _=>Zh (fun _=>Zb (by intro h; simp at h)) (fun _=>Zb ⟨Zp hi (by omega),trivial⟩)
 ·intro _
  simp only[Zi3];rw[if_neg (by omega)];refine Tot.inr ?_;unfold Zgy;refine(ZmN t ht h).bind fun z hz=>?_
  refine ZJ (I:=fun(n:Nat) (s:List Tapi_Coin×Int)=>s.2+(n:Int)=(z.length:Int)∧0≤s.2∧(s.1.length:Int)=l.length+s.2∧∀ c∈s.1,c∈l∨c∈z) (n:=z.length) ?_ ⟨by simp,by simp,by simp,fun c hc=>.inl hc⟩;rintro n ⟨acc,i⟩ ⟨h1,h2,h3,h4⟩
  dsimp only at h1 h2 h3 h4;simp only[Zk9];refine Zh (fun hi=>?_) (fun hi=>?_)
  ·refine YU h2 hi fun j hj hj2=>ZcV hj2 fun x hx=>?_
   have hxz:=List.mem_of_getElem? hx;obtain⟨_,o,ho,hxo⟩:=hz.2 x hxz;refine(ZxI (l:=acc) (c:=x) (by omega) (by rw[hxo]; exact hs o ho)).bind fun r hr=>Zb ⟨n-1,by omega,?_,?_,?_,?_⟩
   ·dsimp only
    rw[wi _ (by omega)];omega
   ·dsimp only
    rw[wi _ (by omega)];omega
   ·dsimp only
    rw[wi _ (by omega)];omega
   ·intro c hc
    rcases hr.2 c hc with hc | rfl
    ·exact h4 c hc
    ·exact .inr hxz
  ·refine Tot.out (Zb fun _=>⟨by dsimp only; omega,fun c hc=>?_⟩)
   rcases h4 c hc with hc | hc
   ·exact .inl hc
   ·exact .inr (hz.2 c hc)
theorem Zwn {p:Tapi_Params}{l:List Tapi_Coin}{t:Tapi_Tx}(hl:l.length≤1000000) (hs:∀ c∈l,c.2.1.2.length≤1000000) (ht:t.2.1.length≤1000) (h:Int):Tot (Zfz p l t h) fun r=>r.2=0→r.1.length=t.2.1.length∧(∀ c∈r.1,c∈l)∧∀ j (h1:j<r.1.length) (h2:j<t.2.1.length),r.1[j].1=t.2.1[j].1:=by
 unfold Zfz;refine ZJ (I:=fun(n:Nat) (s:Int×List Tapi_Coin)=>s.1+(n:Int)=(t.2.1.length:Int)∧(s.2.length:Int)=s.1∧(∀ c∈s.2,c∈l)∧∀ j (h1:j<s.2.length) (h2:j<t.2.1.length),s.2[j].1=t.2.1[j].1) (n:=t.2.1.length) ?_ ⟨by simp,by simp,by simp,fun j h1=>absurd h1 (by simp)⟩;rintro n ⟨i,acc⟩ ⟨h1,h2,h3,h4⟩
 dsimp only at h1 h2 h3 h4;simp only[ZjL];refine Zh (fun hi=>?_) (fun hi=>?_)
 ·obtain⟨k,rfl⟩:=Int.eq_ofNat_of_zero_le (show 0≤i by omega)
  rw[Zi (by omega)];refine(ZpD l _ (by omega)).bind fun y hy=>Zh (fun _=>Zb (by intro h; simp at h)) (fun hneg=>?_)
  rcases hy with ⟨hy,_⟩ | ⟨q,hq,rfl,hq2⟩
  ·exact absurd hy hneg
  rw[Zi hq,Zph _ (hs _ (List.getElem_mem hq)),Za];refine Zv (by omega) (Zb ⟨n-1,by omega,?_,?_,?_,?_⟩)
  ·dsimp only
   rw[wi _ (by omega)];omega
  ·dsimp only
   rw[wi _ (by omega)];simp
   omega
  ·intro c hc
   rcases List.mem_append.1 hc with hc | hc
   ·exact h3 c hc
   ·obtain rfl:=List.mem_singleton.1 hc
    exact List.getElem_mem hq
  ·intro j h1' h2'
   dsimp only at h1' ⊢;by_cases hj:j<acc.length
   ·rw[List.getElem_append_left hj]
    exact h4 j hj h2'
   ·obtain rfl:j=acc.length:=by simp at h1'; omega
    obtain rfl:acc.length=k:=by omega
    simpa using hq2
 ·refine Tot.out ?_
  unfold ZeO;refine Zar acc (fun _=>True) (by omega) trivial ?_ ?_
  ·intro k hk _
   simp only[Zhe];rw[if_pos (by omega),YE hk,ZhF hk];exact Zh (fun _=>Zb (by intro h; simp at h)) (fun _=>Zb ⟨Zp hk (by omega),trivial⟩)
  ·intro _
   simp only[Zhe];rw[if_neg (by omega)];exact⟨(acc,0),rfl,fun _=>⟨by dsimp only; omega,h3,h4⟩⟩
theorem Zu1 {l:List Tapi_Coin}{i:Nat}(hi:i<l.length) (hl:l.length≤1000000):ZdD l (i:Int)=some (l.take i++l.drop (i+1)):=by
 unfold ZdD;rw[Zj (by omega),Zj (by simp; omega),wi _ (by omega),Zj (by omega),Zj (by simp; omega)];rw[show((i:Int)+1).toNat=i+1 by omega,Int.toNat_natCast]
theorem Zrm (l:List Tapi_Coin) (hl:l.length≤1000000000):Tot (Zd5 l) fun _=>True:=by
 unfold Zd5;refine ZJ (I:=fun(n:Nat) (s:Int×Int)=>s.2+(n:Int)=(l.length:Int)∧0≤s.2) (n:=l.length) ?_ ⟨by simp,by simp⟩;rintro n ⟨s,i⟩ ⟨h1,h2⟩
 dsimp only at h1 h2;simp only[ZjN];refine Zh (fun hi=>?_) (fun hi=>Tot.out (Zb trivial));refine XV h2 hi fun x _=>Zb ⟨n-1,by omega,?_,?_⟩
 ·dsimp only
  rw[wi (i+1) (by omega)];omega
 ·dsimp only
  rw[wi (i+1) (by omega)];omega
theorem Zwo {p:Tapi_Params}(hp:PrmOk p) (l:Tapi_Ledger) (hl:l.2.2.length≤1000000000) (b:Tapi_Block):Tot (Zfy p l b) fun r=>r=0→ZqB b:=by
 unfold Zfy;refine(Zff hp).bind fun y _=>?_
 have h5:Tot (if ¬ (y=true) then some false else(Zd4 l).bind fun y2=>some (!(y2))) fun _=>True :=
  Zh (fun _=>Zb trivial) (fun _=>(Zwl l hl).bind fun z _=>Zb trivial)
 refine h5.bind fun z _=>Zh (fun _=>Zb (by simp)) (fun _=>Zh (fun _=>Zb (by simp)) (fun _=>Zh (fun _=>Zb (by simp)) (fun _=>?_)))
 refine(Zpe b).bind fun e he=>Zh (fun hne=>Zb (by intro h; exact absurd h hne)) (fun h0=>?_)
 have hB:=he (Decidable.byContradiction h0);have hlen:0<b.2.length:=List.length_pos_iff.2 hB.ne;refine ZcV hlen fun x hx=>?_
 have hx0:b.2[0]=x:=by rw[List.getElem?_eq_getElem hlen] at hx; exact Option.some.inj hx
 have hcb:=hB.cb 0 hlen;rw[hx0] at hcb;have hcb:cbS x=true:=by simpa using hcb
 have hin:x.2.1.length=1:=by
  unfold cbS at hcb;split at hcb
  ·rename_i h; rw[h]; rfl
  ·cases hcb
 refine ZcV (by omega) fun q _=>Zh (fun _=>Zb (by simp)) (fun _=>?_)
 refine(Zrl x (by omega) _).bind fun r _=>Zh (fun _=>Zb (by simp)) (fun _=>Zb fun _=>hB)
end
section
set_option maxRecDepth 100000
def dg8 (a:Arr 8):Prop:=∀ i,i<8→M64 (a.at i)
theorem dg8_zero:dg8 (zA 8):=by
 intro i hi;have:i=0∨i=1∨i=2∨i=3∨i=4∨i=5∨i=6∨i=7:=by omega
 rcases this with rfl | rfl | rfl | rfl | rfl | rfl | rfl | rfl <;> exact⟨by decide,by decide⟩
theorem ZtZ {a:Arr 8}(h:dg8 a){j:Nat}(hj:j<8){x:Int}(hx:M64 x):dg8 (a.put j x):=by
 intro i hi;by_cases e:j=i
 ·subst e
  rw[Arr.at_put _ hi];exact hx
 ·rw[Arr.at_put_ne _ e]
  exact h i hi
theorem Zt0 {l:List Int}(hl:l.length=4) (h:∀ x∈l,M64 x):dg ((zA 4).over l):=by
 intro i hi
 have e:(zA 4).over l=⟨l,hl⟩:=by
  unfold Arr.over;have h4:(zA 4).l.length=4:=(zA 4).hl
  congr 1
  rw[List.take_of_length_le (by omega),List.drop_of_length_le (by omega),List.append_nil]
 rw[e];have:(⟨l,hl⟩:Arr 4).at i=l[i]'(by omega):=by simp[Arr.at,hl,hi]
 rw[this];exact h _ (List.getElem_mem _)
theorem ZyU {a:Arr 8}(h:dg8 a):∀ x∈a.l,M64 x:=by
 intro x hx;obtain⟨i,hi,rfl⟩:=List.getElem_of_mem hx;have hl:=a.hl;have:=h i (by omega);rw[Arr.at,List.getD_eq_getElem?_getD,List.getElem?_eq_getElem hi] at this;exact this
theorem ZyV {a b:Arr 4}(ha:dg a) (hb:dg b):Tot (Zh8 a b) fun r=>dg r.1∧dg r.2:=by
 unfold Zh8;refine ZJ (I:=fun(n:Nat) (s:Int×Arr 8)=>s.1+(n:Int)=4∧0≤s.1∧dg8 s.2) (n:=4) ?_ ⟨by simp,by simp,dg8_zero⟩;rintro n ⟨i,w⟩ ⟨h1,h2,h3⟩
 dsimp only at h1 h2 h3;simp only[Zlb];refine Zh (fun h=>?_) (fun h=>?_)
 ·refine ZJ (I:=fun(k:Nat) (s:Int×Int×Arr 8)=>s.2.1+(k:Int)=4∧0≤s.2.1∧M64 s.1∧dg8 s.2.2) (n:=4) ?_ ⟨by simp,by simp,⟨by simp,by simp⟩,h3⟩
  rintro k ⟨c,j,w⟩ ⟨k1,k2,k3,k4⟩
  dsimp only at k1 k2 k3 k4;simp only[Zla];refine Zh (fun hj=>?_) (fun hj=>?_)
  ·refine YU h2 h fun p hp hp4=>YU k2 hj fun q hq hq4=>?_
   refine(show Tot (Xk (a.at p) (b.at q)) fun r=>M64 r.1∧M64 r.2 from Zb ⟨ZiS _,ZiS _⟩).bind fun y hy=>?_
   rw[wi (i+j) (by omega)];refine YU (by omega) (by omega) fun z hz hz8=>?_
   refine(ZoB (k4 z hz8) hy.2 (by omega)).bind fun u hu=>?_
   refine(ZoB hu.1 k3 (by omega)).bind fun v hv=>?_
   refine Zb ⟨k-1,by omega,?_,?_,ZiS _,ZtZ k4 hz8 hv.1⟩
   ·dsimp only
    rw[wi (j+1) (by omega)];omega
   ·dsimp only
    rw[wi (j+1) (by omega)];omega
  ·refine Tot.out ?_
   unfold Zgz;rw[wi (i+4) (by omega)];refine YU (by omega) (by omega) fun z hz hz8=>Zb ⟨n-1,by omega,?_,?_,ZtZ k4 hz8 k3⟩
   ·dsimp only
    rw[wi (i+1) (by omega)];omega
   ·dsimp only
    rw[wi (i+1) (by omega)];omega
 ·refine Tot.out (Zb ?_)
  have hl:=w.hl;have hm:=ZyU h3;exact⟨Zt0 (by rw[List.length_drop,hl]) fun x hx=>hm x (List.mem_of_mem_drop hx),Zt0 (by rw[List.length_take,hl]; rfl) fun x hx=>hm x (List.mem_of_mem_take hx)⟩
theorem Zwp {x y c:Int}(hx:M64 x) (hy:M64 y) (hc:0≤c∧c≤1):Tot (ZaU x y c) fun r=>M64 r.1∧0≤r.2∧r.2≤1:=by
 unfold ZaU;refine Zv (by omega) (Zb ⟨by simp only; omega,?_⟩);simp only;split <;> omega
theorem ZyW {a b:Arr 4}(ha:dg a) (hb:dg b):Tot (Zh4 a b) fun r=>dg r.1:=by
 unfold Zh4;refine ZJ (I:=fun(n:Nat) (s:Int×Int×Arr 4)=>s.2.1+(n:Int)=4∧0≤s.2.1∧(0≤s.1∧s.1≤1)∧dg s.2.2) (n:=4) ?_ ⟨by simp,by simp,by simp,dg_zero⟩;rintro n ⟨c,i,r⟩ ⟨h1,h2,h3,h4⟩
 dsimp only at h1 h2 h3 h4;simp only[Zk5];refine Zh (fun h=>?_) (fun h=>?_)
 ·refine YU h2 h fun j hj hj4=>?_
  refine(Zwp (ha j hj4) (hb j hj4) h3).bind fun y hy=>Zb ⟨n-1,by omega,?_,?_,hy.2,ZgB h4 hj4 hy.1⟩
  ·dsimp only
   rw[wi _ (by omega)];omega
  ·dsimp only
   rw[wi _ (by omega)];omega
 ·exact Tot.out (Zb h4)
theorem ZyX {a b c:Arr 4}(ha:dg a) (hb:dg b) (hc:dg c):Tot (Zh9 a b c) fun r=>dg r.1:=by
 unfold Zh9;refine(ZlQ _ _).bind fun y _=>Zh (fun _=>Zb dg_zero) (fun _=>?_)
 refine ZJ (I:=fun(n:Nat) (s:Int×Arr 4×Arr 4)=>s.1+1=(n:Int)∧s.1≤255∧dg s.2.1∧dg s.2.2) (n:=256) ?_ ⟨by simp,by simp,dg_zero,ha⟩;rintro n ⟨i,q,r⟩ ⟨h1,h2,h3,h4⟩
 dsimp only at h1 h2 h3 h4;simp only[Zld];refine Zh (fun h=>?_) (fun h=>Tot.out (Zb h3));refine(ZlP r (by omega) (by omega)).bind fun o _=>(ZtW h4 h4).bind fun s hs=>(ZlP b h (by omega)).bind fun t _=>?_
 have key:∀ p,dg p→Tot (Zew o c i q p) (Nx (fun(n:Nat) (s:Int×Arr 4×Arr 4)=>s.1+1=(n:Int)∧s.1≤255∧dg s.2.1∧dg s.2.2) (fun r=>dg r.1) n):=by
  intro p hp;unfold Zew
  have h5:Tot (if o=true then some false else(Xm p c).bind fun y45=>some (decide (0≤y45))) fun _=>True :=
   Zh (fun _=>Zb trivial) (fun _=>(ZlQ _ _).bind fun z _=>Zb trivial)
  have nxt:∀ q' p',dg q'→dg p'→Tot (ZgA i q' p') (Nx (fun(n:Nat) (s:Int×Arr 4×Arr 4)=>s.1+1=(n:Int)∧s.1≤255∧dg s.2.1∧dg s.2.2) (fun r=>dg r.1) n):=by
   intro q' p' hq hp';refine Zb ⟨n-1,by omega,?_,?_,hq,hp'⟩
   ·dsimp only
    rw[wi (i-1) (by omega)];omega
   ·dsimp only
    rw[wi (i-1) (by omega)];omega
  refine h5.bind fun z _=>Zh (fun _=>?_) (fun _=>nxt q p h3 hp)
  refine(ZyW hp hc).bind fun v hv=>?_
  rw[Zgj h,Zec h,wi (i / 64) (by omega)];exact YU (by omega) (by omega) fun j hj hj4=>Zv (by omega) (nxt _ _ (ZgB h3 hj4 (ZjZ _ _ _)) hv)
 exact Zh (fun _=>key _ (ZgB hs (by omega) (ZjZ _ _ _))) (fun _=>key _ hs)
end
section
set_option maxRecDepth 100000
def sm (a:Arr 4) (k:Nat):Prop:=0≤a.at 0∧a.at 0<2 ^ k∧a.at 1=0∧a.at 2=0∧a.at 3=0
theorem Zt1 (k:Nat):sm (zA 4) k:=⟨by decide,Int.pow_pos (by decide),by decide,by decide,by decide⟩
theorem Zt2 {a:Arr 4}{k m:Nat}(h:sm a k) (hk:k≤m):sm a m:=by
 obtain⟨h1,h2,h3⟩:=h;exact⟨h1,by have:(2:Int) ^ k≤2 ^ m:=(by exact_mod_cast Nat.pow_le_pow_right (n:=2) (by decide) hk); omega,h3⟩
theorem Zrn (x:Int):IntKind.u64.wrap x=x % 18446744073709551616:=by
 have:=ZiS x;unfold IntKind.wrap IntKind.bits;simp
theorem ZAD {x:Int}{k:Nat}(hk:k≤16) (h0:0≤x) (h1:x<2 ^ k):0≤bits .or .u64 x (IntKind.u64.wrap (1 * 2 ^ k))∧bits .or .u64 x (IntKind.u64.wrap (1 * 2 ^ k))<2 ^ (k+1):=by
 obtain⟨m,rfl⟩:=Int.eq_ofNat_of_zero_le h0;have hm:m<2 ^ k:=by exact_mod_cast h1
 have hp:(2:Nat) ^ k≤65536:=Nat.pow_le_pow_right (by decide) hk;have hp1:(2:Nat) ^ (k+1)≤131072:=Nat.pow_le_pow_right (n:=2) (by decide) (show k+1≤17 by omega)
 have e0:IntKind.u64.wrap (1 * 2 ^ k)=((2 ^ k:Nat):Int):=by
  rw[Int.one_mul,Zrn,show(2:Int) ^ k=((2 ^ k:Nat):Int) from(Int.natCast_pow 2 k).symm];generalize (2:Nat) ^ k=z at hp ⊢;omega
 rw[e0]
 have e1:bits .or .u64 (m:Int) ((2 ^ k:Nat):Int)=((m ||| 2 ^ k:Nat):Int):=by
  show IntKind.u64.wrap ((BitVec.ofInt 64 (m:Int) ||| BitVec.ofInt 64 ((2 ^ k:Nat):Int)).toNat:Int)=_
  have q1:(BitVec.ofInt 64 (m:Int)).toNat=m:=by
   simp only[BitVec.toNat_ofInt];omega
  have q2:(BitVec.ofInt 64 ((2 ^ k:Nat):Int)).toNat=2 ^ k:=by
   simp only[BitVec.toNat_ofInt];generalize (2:Nat) ^ k=z at hp ⊢;omega
  rw[BitVec.toNat_or,q1,q2,Zrn];have:m ||| 2 ^ k<2 ^ (k+1):=Nat.or_lt_two_pow (by rw[Nat.pow_succ]; omega) (by rw[Nat.pow_succ]; have:=Nat.two_pow_pos k; omega)
  generalize m ||| 2 ^ k=z at this ⊢
  omega
 rw[e1];have:m ||| 2 ^ k<2 ^ (k+1):=Nat.or_lt_two_pow (by rw[Nat.pow_succ]; omega) (by rw[Nat.pow_succ]; have:=Nat.two_pow_pos k; omega)
 exact⟨by omega,by exact_mod_cast this⟩
theorem Zwq {a:Arr 4}(ha:dg a){n:Int}(hn:240≤n) (hn2:n≤100000):Tot (Zbm a n) fun r=>dg r∧sm r 16:=by
 unfold Zbm;refine Zh (fun _=>by omega) (fun h=>Zh (fun _=>Zb ⟨dg_zero,Zt1 _⟩) (fun h'=>?_));refine ZJ (I:=fun(k:Nat) (s:Int×Arr 4)=>s.1+(k:Int)=256-n∧0≤s.1∧dg s.2∧sm s.2 s.1.toNat) (n:=(256-n).toNat) ?_ ⟨by simp; omega,by simp,dg_zero,Zt1 _⟩;rintro k ⟨i,r⟩ ⟨h1,h2,h3,h4⟩
 dsimp only at h1 h2 h3 h4;simp only[Zi0,Zet];rw[wi (i+n) (by omega)];refine Zh (fun h=>?_) (fun h=>?_)
 ·have e1:(i+1).toNat=i.toNat+1:=by omega
  refine(ZlP a (by omega) h).bind fun y _=>Zh (fun _=>?_) (fun _=>?_)
  ·rw[Zgj h2,Zec h2,wi (i / 64) (by omega)]
   refine YU (by omega) (by omega) fun j hj hj4=>Zv (by omega) (Zb ⟨k-1,by omega,?_,?_,ZgB h3 hj4 (ZjZ _ _ _),?_⟩)
   ·dsimp only
    rw[wi _ (by omega)];omega
   ·dsimp only
    rw[wi _ (by omega)];omega
   ·dsimp only
    rw[wi _ (by omega),e1];obtain rfl:j=0:=by omega
    have e2:min (i % 64).toNat 64=i.toNat:=by omega
    rw[e2];obtain⟨g1,g2,g3,g4,g5⟩:=h4;have:=ZAD (k:=i.toNat) (by omega) g1 g2;refine⟨?_,?_,?_,?_,?_⟩
    ·rw[Arr.at_put _ (by omega)]
     exact this.1
    ·rw[Arr.at_put _ (by omega)]
     exact this.2
    ·rw[Arr.at_put_ne _ (by omega)]
     exact g3
    ·rw[Arr.at_put_ne _ (by omega)]
     exact g4
    ·rw[Arr.at_put_ne _ (by omega)]
     exact g5
  ·refine Zb ⟨k-1,by omega,?_,?_,h3,?_⟩
   ·dsimp only
    rw[wi _ (by omega)];omega
   ·dsimp only
    rw[wi _ (by omega)];omega
   ·dsimp only
    rw[wi _ (by omega),e1];exact Zt2 h4 (by omega)
 ·exact Tot.out (Zb ⟨h3,Zt2 h4 (by omega)⟩)
theorem Zwr {a:Arr 4}(h:sm a 16){n:Int}(h0:16≤n) (h1:n<256):Tot (Zbl a n) fun r=>r=false:=by
 unfold Zbl;rw[Zgj (by omega),Zec (by omega),wi (n / 64) (by omega)];refine YU (by omega) (by omega) fun j hj hj4=>Zv (by omega) (Zb ?_)
 have e:(a.at j).fdiv (2 ^ (min (n % 64).toNat 64))=0:=by
  obtain⟨g1,g2,g3,g4,g5⟩:=h;have hpos:(0:Int)<2 ^ (min (n % 64).toNat 64):=Int.pow_pos (by decide);have:j=0∨j=1∨j=2∨j=3:=by omega
  rcases this with rfl | rfl | rfl | rfl
  ·rw[Int.fdiv_eq_ediv_of_nonneg _ (by omega)]
   refine Int.ediv_eq_zero_of_lt g1 (Int.lt_of_lt_of_le g2 ?_)
   exact_mod_cast Nat.pow_le_pow_right (n:=2) (by decide) (show 16≤min (n % 64).toNat 64 by omega)
  ·rw[g3]; simp
  ·rw[g4]; simp
  ·rw[g5]; simp
 rw[e];decide
theorem Zws {a:Arr 4}(h:sm a 16):Tot (Zch a) fun r=>r≤16:=by
 unfold Zch;refine ZJ (I:=fun(n:Nat) (s:Int)=>s+1=(n:Int)∧s≤255) (n:=256) ?_ ⟨by omega,by omega⟩;rintro n s ⟨hs,hs2⟩
 simp only[Zi1];refine Zh (fun h0=>?_) (fun h0=>Tot.out (Zb (by omega)));by_cases h16:16≤s
 ·refine(Zwr h h16 (by omega)).bind fun y hy=>Zh (fun hy2=>?_) (fun _=>?_)
  ·rw[hy] at hy2
   cases hy2
  ·exact Zb ⟨n-1,by omega,by rw[wi _ (by omega)]; omega,by rw[wi _ (by omega)]; omega⟩
 ·refine(ZlP a h0 (by omega)).bind fun y hy=>Zh (fun hy2=>?_) (fun _=>?_)
  ·exact Zb (show IntKind.i64.wrap (s+1)≤16 by rw[wi (s+1) (by omega)]; omega)
  ·exact Zb ⟨n-1,by omega,by rw[wi _ (by omega)]; omega,by rw[wi _ (by omega)]; omega⟩
theorem Zto {a:Arr 4}(ha:dg a):Tot (ZdG a) M32:=by
 unfold ZdG;refine(Zml a).bind fun y _=>Zh (fun _=>Zb ⟨by omega,by omega⟩) (fun _=>?_)
 refine ZJ (I:=fun(n:Nat) (s:Int)=>s+(n:Int)=33∧1≤s) (n:=32) ?_ ⟨by omega,by omega⟩;rintro n s ⟨h1,h2⟩
 have nxt:1≤n→Nx (fun(n:Nat) (s:Int)=>s+(n:Int)=33∧1≤s) M32 n (.inl (IntKind.i64.wrap (s+1))):=fun hn =>
  ⟨n-1,by omega,by rw[wi _ (by omega)]; omega,by rw[wi _ (by omega)]; omega⟩
 have key:∀ r,1≤n∨sm r 16→Tot (ZbD s r) (Nx (fun(n:Nat) (s:Int)=>s+(n:Int)=33∧1≤s) M32 n):=by
  intro r hr;unfold ZbD;rcases hr with hr | hr
  ·exact(ZtV r).bind fun z _=>Zh (fun _=>Zb (Zwi _ _ _)) (fun _=>Zb (nxt hr))
  ·exact(Zws hr).bind fun z hz=>Zh (fun _=>Zb (Zwi _ _ _)) (fun h=>absurd (show z≤23 by omega) h)
 simp only[Ziq];refine Zh (fun h3=>?_) (fun h3=>?_)
 ·rw[wi (3-s) (by omega),wi (8 * (3-s)) (by omega)]
  refine(ZtX ha (by omega)).bind fun u hu=>(Zo0 hu _).bind fun v hv=>(ZlQ _ _).bind fun w _=>Zh (fun _=>Zb (nxt (by omega))) (fun _=>key u (.inl (by omega)))
 ·rw[wi (s-3) (by omega),wi (8 * (s-3)) (by omega)]
  by_cases h33:s=33
  ·exact(Zwq ha (by omega) (by omega)).bind fun u hu=>key u (.inr hu.2)
  ·exact(Zo0 ha _).bind fun u hu=>key u (.inl (by omega))
theorem Zu2 {p:Tapi_Params}(hp:PrmOk p){b:Int}(hb:M32 b) (x y:Int):Tot (Zex p b x y) fun r=>M32 r.1:=by
 unfold Zex;refine(Zff hp).bind fun v _=>Zh (fun _=>Zb ⟨by simp,by simp⟩) (fun _=>?_)
 refine(ZnN hb).bind fun t ht=>Zh (fun _=>Zb ⟨by simp,by simp⟩) (fun _=>?_)
 have k3:∀ a,dg a→Tot (Zd6 a) fun r=>M32 r.1:=fun a ha=>by
  unfold Zd6;exact(Zto ha).bind fun z hz=>Zb hz
 have k2:∀ a,dg a→Tot (Zd7 a) fun r=>M32 r.1:=fun a ha=>by
  unfold Zd7;refine(Zml a).bind fun z _=>Zh (fun _=>?_) (fun _=>k3 a ha)
  rw[ZnM,Za];exact k3 _ (ZoZ ⟨by omega,by omega⟩)
 have k1:∀ q,M64 q→Tot (Zd8 p t q) fun r=>M32 r.1:=fun q hq=>by
  unfold Zd8;rw[ZnM,Za]
  have hd:∀ c d e:Int,M64 c→M64 d→M64 e→M64 (if c<(if q<d then e else q) then c else(if q<d then e else q)):=by
   intro c d e hc hd he
   have h1:M64 (if q<d then e else q):=by
    split
    ·exact he
    ·exact hq
   generalize (if q<d then e else q)=w at h1 ⊢;split
   ·exact hc
   ·exact h1
  refine(ZyV ht (ZoZ (hd _ _ _ (ZiS _) (ZiS _) (ZiS _)))).bind fun m hm=>?_
  rw[ZnM,Za];refine(ZyX hm.1 hm.2 (ZoZ (ZiS _))).bind fun z hz=>?_
  have h5:Tot (if ¬ (z.2.2=true) then some false else(Xm z.1 p.2.1).bind fun y8=>some (decide (0<y8))) fun _=>True :=
   Zh (fun _=>Zb trivial) (fun _=>(ZlQ _ _).bind fun _ _=>Zb trivial)
  exact h5.bind fun _ _=>Zh (fun _=>k2 _ hp.lim) (fun _=>k2 _ hz)
 exact Zh (fun _=>k1 _ (ZiS _)) (fun _=>k1 _ ⟨by omega,by omega⟩)
theorem Zqe {p:Tapi_Params}(hp:PrmOk p){c:Tapi_Context}(hb:M32 c.2.2.1):Tot (Zd9 p c) fun r=>M32 r.1:=by
 unfold Zd9;refine(Zff hp).bind fun v _=>Zh (fun _=>Zb ⟨by simp,by simp⟩) (fun h=>?_)
 have hw:=hp.win;refine Zv (by omega) (Zh (fun _=>Zb hb) (fun _=>?_));have hl:0<c.2.2.2.2.length∧c.2.2.2.2.length≤11:=by omega
 rw[wi _ (by omega)];exact XV (by omega) (by omega) fun x _=>(Zu2 hp hb _ _).bind fun z hz=>Zb hz
theorem Zqf (l:List Int) (hl:l.length≤1000):Tot (Zc7 l) fun _=>True:=by
 unfold Zc7;refine ZJ (I:=fun(n:Nat) (s:Int×List Int)=>s.1+(n:Int)=(l.length:Int)∧0≤s.1∧(s.2.length:Int)=s.1) (n:=l.length) ?_ ⟨by simp,by simp,by simp⟩;rintro n ⟨i,acc⟩ ⟨h1,h2,h3⟩
 dsimp only at h1 h2 h3;simp only[Zjc];refine Zh (fun h=>?_) (fun h=>?_)
 ·refine XV h2 h fun x _=>?_
  refine ZJ (I:=fun(k:Nat) (s:Int)=>s+(k:Int)=(acc.length:Int)∧0≤s) (n:=acc.length) ?_ ⟨by omega,by omega⟩;rintro k s ⟨k1,k2⟩
  simp only[Zjb]
  have h5:Tot (if s<(acc.length:Int) then(inA (acc.length) s).bind fun j64=>(acc[j64]?).bind fun x65=>some (decide (x65≤x)) else some false) fun _=>True :=
   Zh (fun hs=>YU k2 hs fun j _ hj=>ZcV hj fun _ _=>Zb trivial) (fun _=>Zb trivial)
  refine h5.bind fun z _=>Zh (fun hz=>?_) (fun hz=>?_)
  ·exact Zb ⟨k-1,by omega,by rw[wi _ (by omega)]; omega,by rw[wi _ (by omega)]; omega⟩
  ·refine Tot.out ?_
   unfold Zd1;refine Zv (by omega) (Zv (by omega) (Zv ?_ (Zv ?_ (Zb ⟨n-1,by omega,?_,?_,?_⟩))))
   ·simp only[List.length_take,List.length_drop]
    omega
   ·simp only[List.length_take,List.length_drop]
    omega
   ·dsimp only
    rw[wi _ (by omega)];omega
   ·dsimp only
    rw[wi _ (by omega)];omega
   ·dsimp only
    rw[wi _ (by omega)];simp only[List.length_append,List.length_take,List.length_drop,List.length_cons,List.length_nil];omega
 ·refine Tot.out ?_
  unfold Zja;refine Zh (fun _=>Zb trivial) (fun _=>?_);rw[Zgj (by omega),wi _ (by omega)];exact YU (by omega) (by omega) fun j _ hj=>ZcV hj fun _ _=>Zb trivial
theorem ZxJ {p:Tapi_Params}(hp:PrmOk p){c:Tapi_Context}(hb:M32 c.2.2.1) (ht:c.2.2.2.2.length≤1000) (r:Arr 32) (y:Int):Tot (ZgX p c r y) fun h=>M32 h.2.2.2.2.1:=by
 unfold ZgX;refine(Zqe hp hb).bind fun b hb=>(Zqf _ ht).bind fun m _=>?_
 refine ZJ (I:=fun(n:Nat) (s:Int)=>s+(n:Int)=20000∧0≤s) (n:=20000) ?_ ⟨by omega,by omega⟩;rintro n s ⟨h1,h2⟩
 simp only[Zkg];refine Zh (fun h=>?_) (fun h=>Tot.out (Zb hb));rw[ZfT,Za];refine(Zrj _ hb).bind fun z _=>Zh (fun _=>Zb hb) (fun _=>Zb ⟨n-1,by omega,?_,?_⟩)
 ·rw[ZnI]
  omega
 ·rw[ZnI]
  omega
end
section
set_option maxRecDepth 100000
def ZsU (w:List (List Int)):Prop:=∃ k,(1≤k∧k≤6)∧w=[[k]]
theorem Zu3 {a:Int}(h0:0≤a):∃ j,Zbe a=some [1,1,j,5]∧1≤j∧j≤6:=by
 unfold Zbe;rw[Zec h0,ZbE];exact⟨_,rfl,by omega,by omega⟩
theorem ZmO {a:Int}(h0:0≤a):Tot (Zbe a) ScrM:=by
 obtain⟨j,h,hj⟩:=Zu3 h0;exact⟨_,h,j,hj,rfl⟩
theorem ZxK {s:List Int}{w:List (List Int)}(hs:ScrM s) (hw:ZsU w) (e:Tapi_Env):Tot (Za6 s w e) fun _=>True:=by
 obtain⟨j,hj,rfl⟩:=hs;obtain⟨k,hk,rfl⟩:=hw;unfold Za6;rw[if_pos ⟨j,k,hj,hk,rfl,rfl⟩];exact Zb trivial
theorem ZsV (o:Tapi_Output):(ZhO o).length≤17+o.2.length:=by
 have:=ZlA o.2;unfold ZhO;rw[List.length_append,Zfe];omega
theorem Zu4 (b:ByteArray) (hb:b.size≤1000){l:List Int}(hl:l.length≤1000000):Tot (ZaK b l) fun _=>True:=by
 unfold ZaK
 have e:(Zl7 b).length≤1000:=by
  unfold Zl7;rw[List.length_map,Array.length_toList];exact hb
 refine Zv (by omega) ?_;rw[Zjs (by omega),Za];have h32:(Zbb (Zl7 b)).l.length=32:=(Zbb (Zl7 b)).hl;refine Zv (by omega) (Zv (by omega) (Zv (by omega) ?_));rw[Zjs (by simp only[List.length_append]; omega),Za];exact Zb trivial
theorem Ztp (t:Tapi_Tx) (i:Int) (o:Tapi_Output):Tot (ZdH t i o) fun r=>r.2=0→0≤i∧i<t.2.1.length:=by
 unfold ZdH;rw[Zgh,Za];refine Zh (fun _=>Zb (by simp)) (fun h=>Zh (fun _=>Zb (by simp)) (fun hi=>?_))
 have hf:Ye t=true:=by
  apply Decidable.byContradiction
  intro c;exact h (.inl (.inl c))
 have hso:o.2.length≤520:=by
  apply Decidable.byContradiction
  intro c;exact h (.inr (by omega))
 obtain⟨l1,l2,l3,l4⟩:=Zji hf;refine ZJ (I:=fun(n:Nat) (s:Int×List Int×List Int)=>s.1+(n:Int)=(t.2.1.length:Int)∧0≤s.1∧(s.2.1.length:Int)=36 * s.1∧(s.2.2.length:Int)=4 * s.1) (n:=t.2.1.length) ?_ ⟨by simp,by simp,by simp,by simp⟩;rintro n ⟨k,a,b⟩ ⟨h1,h2,h3,h4⟩
 dsimp only at h1 h2 h3 h4;simp only[Zis];refine Zh (fun hk=>?_) (fun hk=>?_)
 ·refine XV h2 hk fun x _=>?_
  rw[Zop,Za];have hp:=ZnF x.1;refine Zv (by omega) ?_;rw[ZeA (by omega),Za];refine Zb ⟨n-1,by omega,?_,?_,?_,?_⟩
  ·dsimp only
   rw[wi _ (by omega)];omega
  ·dsimp only
   rw[wi _ (by omega)];omega
  ·dsimp only
   rw[wi _ (by omega),List.length_append];omega
  ·dsimp only
   rw[wi _ (by omega),List.length_append,Zfe];omega
 ·refine Tot.out ?_
  unfold Zdf;refine ZJ (I:=fun(n:Nat) (s:Int×List Int)=>s.1+(n:Int)=(t.2.2.1.length:Int)∧0≤s.1∧(s.2.length:Int)≤1000 * s.1) (n:=t.2.2.1.length) ?_ ⟨by simp,by simp,by simp⟩;rintro m ⟨q,c⟩ ⟨g1,g2,g3⟩
  dsimp only at g1 g2 g3;simp only[Zir];refine Zh (fun hq=>?_) (fun hq=>?_)
  ·refine XV g2 hq fun x hx=>?_
   have hx5:=(l3 x hx).2;rw[Zqx (by omega),Za]
   have ho:(ZhO x).length≤1000:=by
    have:=ZsV x;omega
   refine Zv (by omega) (Zb ⟨m-1,by omega,?_,?_,?_⟩)
   ·dsimp only
    rw[wi _ (by omega)];omega
   ·dsimp only
    rw[wi _ (by omega)];omega
   ·dsimp only
    rw[wi _ (by omega),List.length_append];omega
  ·refine Tot.out ?_
   unfold Zde;have z1:(Zbb a).l.length=32:=(Zbb a).hl;have z2:(Zbb b).l.length=32:=(Zbb b).hl;have z3:(Zbb c).l.length=32:=(Zbb c).hl;rw[ZeA (by simp),Za,Zjs (by omega),Za,Zks (by simp),Za,Zjs (by omega),Za,Zks (by simp),Za,Zjs (by omega),Za,Zks (by simp),Za,ZeA (by simp),Za,ZeA (by simp),Za,Zqx (by omega),Za]
   have ho:(ZhO o).length≤1000:=by
    have:=ZsV o;omega
   refine Zv (by simp; omega) ?_;refine(Zu4 _ (by decide) (by simp; omega)).bind fun z _=>Zb fun _=>?_
   omega
theorem Zwt {t:Tapi_Tx}{i:Int}{c:Tapi_Coin}{h:Int}(hs:ScrM c.2.1.2) (hw:∀ x∈t.2.1,ZsU x.2.2):Tot (ZfF t i c h) fun _=>True:=by
 unfold ZfF;refine(Ztp t i c.2.1).bind fun m hm=>Zh (fun _=>Zb trivial) (fun h0=>?_)
 have hi:=hm (Decidable.byContradiction h0);refine XV hi.1 hi.2 fun x hx=>Zh (fun _=>Zb trivial) (fun _=>Zh (fun _=>Zb trivial) (fun _=>?_))
 exact(ZxK hs (hw x hx) _).bind fun _ _=>Zb trivial
theorem Ztq {t:Tapi_Tx}{l:List Tapi_Coin}{h:Int}(hl:l.length≤1000000) (ht:t.2.1.length≤1000) (hs:∀ c∈l,ScrM c.2.1.2) (hw:∀ x∈t.2.1,ZsU x.2.2):Tot (ZfG t l h) fun _=>True:=by
 unfold ZfG;rw[Zmf,Za];refine Zh (fun _=>Zb trivial) (fun _=>?_);obtain⟨r,-,hr⟩:=Zxo t l;rw[hr,Za];refine Zh (fun _=>Zb trivial) (fun _=>(Zrl t ht h).bind fun y _=>Zh (fun _=>Zb trivial) (fun _=>?_));refine Zar l (fun _=>True) (by omega) trivial ?_ ?_
 ·intro i hi _
  simp only[Zhf];rw[if_pos (by omega),Zi hi];exact(Zwt (hs _ (List.getElem_mem hi)) hw).bind fun z _=>Zh (fun _=>Zb trivial) (fun _=>Zb ⟨Zp hi (by omega),trivial⟩)
 ·intro _
  simp only[Zhf];rw[if_neg (by omega)];exact⟨_,rfl,trivial⟩
structure TxM (t:Tapi_Tx):Prop where
 ins:t.2.1.length=1
 wit:∀ x∈t.2.1,ZsU x.2.2∧Byt x.1.1.l
 outs:t.2.2.1.length≤2
 scr:∀ o∈t.2.2.1,ScrM o.2
theorem ZzJ {s:List Int}(h:ScrM s):∃ j,(1≤j∧j≤6)∧Zjp s=some [[j]]:=by
 obtain⟨j,hj,rfl⟩:=h;refine⟨j,hj,?_⟩;unfold Zjp;rw[if_neg (by simp)];rfl
theorem Zwu {c:Tapi_Coin}(hc:ZlC c){a:Int}(h0:0≤a):Tot (ZgW c a) fun r=>TxM r.1:=by
 obtain⟨hb,hs⟩:=hc;obtain⟨j,hj,e⟩:=ZzJ hs;unfold ZgW;rw[e,Za]
 have k1:∀ p (q:List Tapi_Output),q.length≤1→(∀ o∈q,ScrM o.2)→Tot (ZfD a c [[j]] p q) fun r=>TxM r.1:=by
  intro p q hq hq2;unfold ZfD;refine(ZmO (by rw[ZbE]; omega)).bind fun y hy=>Zv (by omega) (Zb ⟨rfl,?_,?_,?_⟩)
  ·intro x hx
   obtain rfl:=List.mem_singleton.1 hx;exact⟨⟨j,hj,rfl⟩,hb⟩
  ·simp
   omega
  ·intro o ho
   rcases List.mem_append.1 ho with ho | ho
   ·exact hq2 o ho
   ·obtain rfl:=List.mem_singleton.1 ho
    exact hy
 refine Zh (fun _=>?_) (fun _=>k1 _ _ (by simp) (by simp));refine(ZmO (by rw[ZbE]; omega)).bind fun y hy=>k1 _ _ (by simp) ?_
 intro o ho;obtain rfl:=List.mem_singleton.1 ho;exact hy
end
section
set_option maxRecDepth 100000
theorem ZqC (n:Nat):Byt (zA n).l:=by
 intro x hx
 have:x=0:=by
  simp only[zA] at hx;exact List.eq_of_mem_replicate hx
 omega
theorem ZsW (h:Arr 8):∀ k,Byt (ZmJ h k).l
 | 0=>ZqC 32
 | k+1=>by
  intro x hx;rcases List.mem_or_eq_of_mem_set hx with hx | rfl
  ·exact ZsW h k x hx
  ·unfold byt
   rw[ZbE];omega
theorem ZxL (l:List Int):Byt (Zbb l).l:=ZsW _ 32
theorem Zt3 (t:Tapi_Tx):Byt (idS t).l:=by
 unfold idS;split
 ·exact ZxL _
 ·exact ZqC 32
theorem ZyY {p:Tapi_Params}{l:Tapi_Ledger}{a:Int}(hl:l.2.2.length≤100000) (hc:∀ c∈l.2.2,ZlC c) (h0:0≤a∧a≤255):Tot (YP p l a) fun r=>r.1.length≤3∧∀ t∈r.1,TxM t:=by
 unfold YP;refine Zv (by omega) ?_;refine ZJ (I:=fun(n:Nat) (s:Int×Int×List Tapi_Tx×List Tapi_Coin)=>s.2.1+(n:Int)=3∧0≤s.2.1∧((s.2.2.1.length:Int)≤s.2.1∧∀ t∈s.2.2.1,TxM t)∧(s.2.2.2.length:Int)≤100000+2 * s.2.1∧∀ c∈s.2.2.2,ZlC c) (n:=3) ?_ ⟨by simp,by simp,⟨by simp,by simp⟩,by dsimp only; omega,hc⟩;rintro n ⟨fe,k,txs,cs⟩ ⟨h1,h2,⟨h3,h4⟩,h5,h6⟩
 dsimp only at h1 h2 h3 h4 h5 h6;simp only[Zfc];rw[Zec h0.1];refine Zh (fun hk=>?_) (fun hk=>Tot.out (Zb ⟨by dsimp only; omega,h4⟩));have hu:0≤IntKind.u8.wrap (a.tdiv 4)∧IntKind.u8.wrap (a.tdiv 4)≤255:=by rw[ZbE]; omega
 refine ZJ (I:=fun(m:Nat) (s:Int)=>s+(m:Int)=(cs.length:Int)∧0≤s) (n:=cs.length) ?_ ⟨by omega,by omega⟩;rintro m i ⟨g1,g2⟩
 simp only[Zfb];generalize IntKind.u8.wrap (a.tdiv 4)=u at hu ⊢;rw[wi u (by omega),wi k (by omega),wi (u+k) (by omega),wi (u+k+i) (by omega),Zec (n:=u+k+i) (by omega)];refine Zh (fun hi=>?_) (fun hi=>?_)
 ·have he:0≤(u+k+i) % (cs.length:Int)∧(u+k+i) % (cs.length:Int)<cs.length:=⟨Int.emod_nonneg _ (by omega),Int.emod_lt_of_pos _ (by omega)⟩
  generalize (u+k+i) % (cs.length:Int)=e at he ⊢;refine Zv (by omega) (YU he.1 he.2 fun j hj hjl=>ZcV hjl fun c hcj=>Zh (fun _=>?_) (fun _=>?_))
  ·exact Zb ⟨m-1,by omega,by rw[wi _ (by omega)]; omega,by rw[wi _ (by omega)]; omega⟩
  ·have hcm:=h6 c (List.mem_of_getElem? hcj)
   refine(Zwu hcm (by rw[ZbE]; omega)).bind fun y hy=>?_
   have ho:=hy.outs;rw[wi (e+1) (by omega)];refine Zv (by omega) (Zv (by omega) (Zv (by omega) (Zv (by simp; omega) ?_)));rw[Zoz,Za];refine ZJ (I:=fun(q:Nat) (s:Int×List Tapi_Coin)=>s.1+(q:Int)=(y.1.2.2.1.length:Int)∧0≤s.1∧(s.2.length:Int)≤100000+2 * k+s.1∧∀ c∈s.2,ZlC c) (n:=y.1.2.2.1.length) ?_ ⟨by simp,by simp,by simp; omega,?_⟩
   ·rintro q ⟨b,ds⟩ ⟨d1,d2,d3,d4⟩
    dsimp only at d1 d2 d3 d4;simp only[Zcm];refine Zh (fun hb=>?_) (fun hb=>?_)
    ·refine YU d2 hb fun z hz hzl=>ZcV hzl fun o hoz=>Zv (by omega) (Zb ⟨q-1,by omega,?_,?_,?_,?_⟩)
     ·dsimp only
      rw[wi _ (by omega)];omega
     ·dsimp only
      rw[wi _ (by omega)];omega
     ·dsimp only
      rw[wi (b+1) (by omega),List.length_append];simp
      omega
     ·intro c' hc'
      rcases List.mem_append.1 hc' with hc' | hc'
      ·exact d4 c' hc'
      ·obtain rfl:=List.mem_singleton.1 hc'
       exact⟨Zt3 _,hy.scr o (List.mem_of_getElem? hoz)⟩
    ·refine Tot.out ?_
     unfold Zcl;refine Tot.out ?_;unfold Y1;refine Zb ⟨n-1,by omega,?_,?_,⟨?_,?_⟩,?_,d4⟩
     ·dsimp only
      rw[ZbE];omega
     ·dsimp only
      rw[ZbE];omega
     ·dsimp only
      rw[ZbE,List.length_append];simp
      omega
     ·intro t ht
      rcases List.mem_append.1 ht with ht | ht
      ·exact h4 t ht
      ·obtain rfl:=List.mem_singleton.1 ht
       exact hy
     ·dsimp only
      rw[ZbE];omega
   ·intro c' hc'
    rcases List.mem_append.1 hc' with hc' | hc'
    ·exact h6 c' (List.mem_of_mem_take hc')
    ·exact h6 c' (List.mem_of_mem_drop (List.mem_of_mem_take hc'))
 ·refine Tot.out ?_
  unfold Y1;refine Zb ⟨n-1,by omega,?_,?_,⟨?_,h4⟩,?_,h6⟩
  ·dsimp only
   rw[ZbE];omega
  ·dsimp only
   rw[ZbE];omega
  ·dsimp only
   rw[ZbE];omega
  ·dsimp only
   rw[ZbE];omega
structure BlkM (b:Tapi_Block):Prop where
 bits:M32 b.1.2.2.2.2.1
 len:b.2.length≤4
 one:∀ t∈b.2,t.2.1.length=1∧t.2.2.1.length≤2∧(∀ x∈t.2.1,Byt x.1.1.l)∧∀ o∈t.2.2.1,ScrM o.2
 wit:∀ i (h:i<b.2.length),0<i→∀ x∈b.2[i].2.1,ZsU x.2.2
structure ZoC (c:Tapi_Context):Prop where
 bits:M32 c.2.2.1
 times:c.2.2.2.2.length≤100
structure ZqD (l:Tapi_Ledger):Prop where
 len:l.2.2.length≤100000
 coins:∀ c∈l.2.2,ZlC c
theorem Zwv {p:Tapi_Params}(hp:PrmOk p){l:Tapi_Ledger}(hl:ZqD l) (hh:0≤l.1∧l.1≤1000000){c:Tapi_Context}(hc:ZoC c){a:Int}(h0:0≤a∧a≤255):Tot (ZfE p l c a) BlkM:=by
 unfold ZfE;refine(ZyY hl.len hl.coins h0).bind fun y hy=>?_
 rw[wi (l.1+1) (by omega)];refine(Zpf hp (by omega)).bind fun s hs=>(ZmO (by rw[ZbE]; omega)).bind fun z hz=>?_
 have e1:Zfv (l.1+1) (IntKind.i64.wrap (s+y.2)) z=some (1,[((zA 32,4294967295),IntKind.u32.wrap (l.1+1),[])],[(IntKind.i64.wrap (s+y.2),z)],0):=rfl;rw[e1,Za];refine Zv (by omega) ((Zqd _ (by simp; omega)).bind fun r _=>?_);have e2:∃ q,Zgx a=some q:=⟨_,rfl⟩
 obtain⟨q,e2⟩:=e2;rw[e2,Za];refine(ZxJ hp hc.bits (by have:=hc.times; omega) r q).bind fun h hb=>Zb ⟨hb,?_,?_,?_⟩
 ·simp
  omega
 ·intro t ht
  rcases List.mem_append.1 ht with ht | ht
  ·obtain rfl:=List.mem_singleton.1 ht
   refine⟨rfl,by simp,?_,?_⟩
   ·intro x hx
    obtain rfl:=List.mem_singleton.1 hx;exact ZqC 32
   ·intro o ho
    obtain rfl:=List.mem_singleton.1 ho;exact hz
  ·have:=hy.2 t ht
   exact⟨this.ins,this.outs,fun x hx=>(this.wit x hx).2,this.scr⟩
 ·intro i hi hpos x hx
  obtain⟨i,rfl⟩:∃ k,i=k+1:=⟨i-1,by omega⟩
  simp only[List.singleton_append,List.getElem_cons_succ] at hx;exact((hy.2 _ (List.getElem_mem _)).wit x hx).1
end
end Go.Lc
