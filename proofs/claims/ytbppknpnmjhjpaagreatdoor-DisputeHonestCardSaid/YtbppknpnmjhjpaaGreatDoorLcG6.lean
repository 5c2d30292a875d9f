import Derived.Test.YtbppknpnmjhjpaaGreatDoorLcG5
import Derived.Test.YtbppknpnmjhjpaaGreatDoorLcG3
import Derived.Test.YtbppknpnmjhjpaaGreatDoorLcG4
namespace Go.Lc
open Go.RowKit
open Go.Av
set_option linter.unusedVariables false
set_option linter.unusedSimpArgs false
section
set_option maxRecDepth 100000
theorem ZyL {l:List Int}{p:Int}{r:Tapi_Filter×Int}(h:ER l p r):Byt r.1.2:=by
 rcases h with ⟨_,rfl⟩ | ⟨_,_,rfl⟩ | ⟨_,_,_,_,rfl⟩ | ⟨_,_,_,_,h⟩
 ·intro x hx; cases hx
 ·intro x hx; cases hx
 ·intro x hx; cases hx
 ·unfold ESR at h
  split at h
  ·subst h; intro x hx; cases hx
  ·obtain⟨y,rfl,hw⟩:=h
   exact hw.2.1.byt
theorem ZyM {k:Arr 2}{l:List (List Int)}{p m:Int}{r:Tapi_Filter×Int}(h:BR k l p m r):Byt r.1.2:=by
 rcases h with ⟨_,rfl⟩ | ⟨_,_,rfl⟩ | ⟨_,_,h⟩
 ·intro x hx; cases hx
 ·intro x hx; cases hx
 ·exact ZyL h
end
section
set_option maxRecDepth 100000
theorem ZsK (d:List Int) (a p:Nat) (v:Nat):∀ j,j≤p→(∀ i,i<j→bt d (a+i)=decide (((v:Int) / 2 ^ (p-1-i)) % 2=1))→ZnC d a j=((v / 2 ^ (p-j) % 2 ^ j:Nat):Int)
 | 0,_,_=>by simp[ZnC,Nat.mod_one]
 | j+1,hj,h=>by
  have ih:=ZsK d a p v j (by omega) (fun i hi=>h i (by omega));have hb:=h j (by omega);have e:p-j=(p-(j+1))+1:=by omega
  have e2:p-1-j=p-(j+1):=by omega
  rw[e2] at hb;generalize hk:p-(j+1)=k at *;rw[ZnC,ih,hb,e,Nat.pow_succ 2 k,← Nat.div_div_eq_div_mul]
  have hc:((v:Int) / 2 ^ k)=((v / 2 ^ k:Nat):Int):=by
   rw[Int.natCast_ediv];simp
  rw[hc];generalize v / 2 ^ k=u;have hm:=Nat.mod_mul (x:=u) (a:=2) (b:=2 ^ j);rw[Nat.pow_succ,Nat.mul_comm (2 ^ j) 2,hm];have hu2:u % 2=0∨u % 2=1:=by omega
  rcases hu2 with h0 | h1
  ·rw[if_neg (by simp; omega),h0]
   omega
  ·rw[if_pos (by simp; omega),h1]
   omega
theorem ZyN {q p:Nat}{low:Nat}(hl:low<2 ^ p) (hs:q * 2 ^ p+low≤18446744073709551615):bits .or .u64 (IntKind.u64.wrap ((q:Int) * 2 ^ p)) (low:Int)=((q * 2 ^ p+low:Nat):Int):=by
 have e0:(q:Int) * 2 ^ p=((q * 2 ^ p:Nat):Int):=by simp
 rw[e0,Zpc (by omega)];show IntKind.u64.wrap ((BitVec.ofInt 64 ((q * 2 ^ p:Nat):Int) ||| BitVec.ofInt 64 (low:Int)).toNat:Int)=_
 rw[BitVec.toNat_or]
 have e1:(BitVec.ofInt 64 ((q * 2 ^ p:Nat):Int)).toNat=q * 2 ^ p:=by
  simp only[BitVec.toNat_ofInt];omega
 have e2:(BitVec.ofInt 64 (low:Int)).toNat=low:=by
  simp only[BitVec.toNat_ofInt];omega
 have e3:=Nat.two_pow_add_eq_or_of_lt hl q;rw[e1,e2,Nat.mul_comm q,← e3,Zpc (by rw[Nat.mul_comm]; exact hs)]
theorem ZwG {v:Int}{p:Nat}{d:List Int}{a:Nat}(hb:∀ i (h:i<(Zc0 v p).length),bt d (a+i)=(Zc0 v p)[i]) :
  (∀ i,i<(v / 2 ^ p).toNat→bt d (a+i)=true)∧bt d (a+(v / 2 ^ p).toNat)=false∧∀ i,i<p→bt d (a+(v / 2 ^ p).toNat+1+i)=decide ((v / 2 ^ (p-1-i)) % 2=1):=by
 have hl:=Zh5 v p;refine⟨fun i hi=>?_,?_,fun i hi=>?_⟩
 ·rw[hb i (by omega)]
  simp only[Zc0];rw[List.getElem_append_left (by simpa using hi)];simp
 ·rw[hb _ (by omega)]
  simp only[Zc0];rw[List.getElem_append_right (by simp)];simp
 ·have:=hb ((v / 2 ^ p).toNat+1+i) (by omega)
  rw[show a+(v / 2 ^ p).toNat+1+i=a+((v / 2 ^ p).toNat+1+i) by omega,this];simp only[Zc0];rw[List.getElem_append_right (by simp; omega)];simp only[List.length_replicate,show(v / 2 ^ p).toNat+1+i-(v / 2 ^ p).toNat=i+1 by omega,List.getElem_cons_succ,Zkw,List.getElem_map,List.getElem_range]
theorem ZwH {d:List Int}{n a p:Nat}{v:Nat}(hb:∀ i (h:i<(Zc0 (v:Int) p).length),bt d (a+i)=(Zc0 (v:Int) p)[i]) (hn:a+(Zc0 (v:Int) p).length≤n) (hq:((v:Int) / 2 ^ p)≤65536) (hv:v≤18446744073709551615):RRS d n a p=((v:Int),a+(Zc0 (v:Int) p).length,0):=by
 obtain⟨h1,h2,h3⟩:=ZwG hb;have hl:=Zh5 (v:Int) p;have hqi:((v:Int) / 2 ^ p)=((v / 2 ^ p:Nat):Int):=by rw[Int.natCast_ediv]; simp
 have hqe:((v:Int) / 2 ^ p).toNat=v / 2 ^ p:=by rw[hqi,Int.toNat_natCast]
 rw[hqe] at h1 h2 h3 hl;rw[hqi] at hq;have hq6:v / 2 ^ p≤65536:=Int.ofNat_le.1 hq;clear hqi hq
 have ho:ones d (n-a) a=v / 2 ^ p:=by
  rw[Zqk d (v / 2 ^ p) (n-a) a (by omega) h1]
  have:ones d (n-a-v / 2 ^ p) (a+v / 2 ^ p)=0:=by
   obtain⟨f,hf⟩:∃ f,n-a-v / 2 ^ p=f+1:=⟨n-a-v / 2 ^ p-1,by omega⟩
   rw[hf,ones,if_neg (by rw[h2]; simp)]
  omega
 have hnum:=ZsK d (a+v / 2 ^ p+1) p v p (Nat.le_refl _) h3;rw[Nat.sub_self,Nat.pow_zero,Nat.div_one] at hnum;unfold RRS;rw[ho,if_neg (by omega),if_neg (by omega),hnum,ZyN (Nat.mod_lt _ (Nat.pow_pos (by omega))) (by have:=Nat.div_add_mod v (2 ^ p); rw[Nat.mul_comm]; omega)];have:=Nat.div_add_mod v (2 ^ p);rw[Nat.mul_comm] at this;rw[this,hl];simp only[Nat.add_assoc]
theorem ZsL (d:List Int) (n p:Nat):∀ (l:List Int) (a:Nat) (s:Int) (out:List Int) (B:List Bool),U64 l→Zpe s l→0≤s→Ziy p a s l=some B→(∀ i (h:i<B.length),bt d (a+i)=B[i])→a+B.length≤n→∃ s',ZnD d n p l.length a s out=ZnD d n p 0 (a+B.length) s' (out++l)
 | [],a,s,out,B,hu,hc,hs,he,hb,hn=>by
  simp only[Ziy,Option.some.injEq] at he;subst he;exact⟨s,by simp⟩
 | v :: l,a,s,out,B,hu,hc,hs,he,hb,hn=>by
  obtain⟨hsv,hc⟩:=hc;have hvu:=hu v (by simp);rw[Ziy] at he;split at he
  ·cases he
  ·rename_i hlim
   obtain⟨B2,hB2,rfl⟩:=Option.map_eq_some_iff.1 he;obtain⟨w,hw⟩:∃ w:Nat,v-s=(w:Int):=⟨(v-s).toNat,by omega⟩
   have hl:=Zh5 (v-s) p;rw[List.length_append] at hn
   have hR:RRS d n a p=(v-s,a+(Zc0 (v-s) p).length,0):=by
    rw[hw] at hlim hb hn ⊢;exact ZwH (fun i h=>by rw[hb i (by rw[List.length_append]; omega),List.getElem_append_left h]) (by omega) (by omega) (by omega)
   have hsum:IntKind.u64.wrap (s+(v-s))=v:=by rw[wu _ (by omega)]; omega
   have ih:=ZsL d n p l (a+(Zc0 (v-s) p).length) v (out++[v]) B2 (fun x hx=>hu x (by simp[hx])) hc (by omega) (by rw[hl,show a+(((v-s) / 2 ^ p).toNat+1+p)=a+((v-s) / 2 ^ p).toNat+1+p by omega]; exact hB2) (fun i h=>by
    have:=hb ((Zc0 (v-s) p).length+i) (by rw[List.length_append]; omega);rw[show a+(Zc0 (v-s) p).length+i=a+((Zc0 (v-s) p).length+i) by omega,this,List.getElem_append_right (by omega)]
    simp) (by omega)
   obtain⟨s',ih⟩:=ih;refine⟨s',?_⟩
   have e1:ZnD d n p (v :: l).length a s out=ZnD d n p l.length (a+(Zc0 (v-s) p).length) v (out++[v]):=by
    rw[List.length_cons,ZnD,hR];simp only[hsum];rw[if_pos trivial,if_neg (by omega)]
   rw[e1,ih,List.length_append,Nat.add_assoc,List.append_assoc];rfl
theorem Zql (d:List Int) (a:Nat):∀ p,(∀ i,i<p→bt d (a+i)=false)→ZnC d a p=0
 | 0,_=>rfl
 | p+1,h=>by
  rw[ZnC,Zql d a p (fun i hi=>h i (by omega)),h p (by omega)];simp
theorem ZwI {l:List Int}{p:Nat}{B:List Bool}{y:List Int×Int}(hl:l.length≤4096) (hp:p≤32) (hu:U64 l) (ha:ZoJ l) (he:Ziy p 0 0 l=some B) (hB:B.length≤1600000) (hw:Wr [] 0 B y):DR ((l.length:Int),y.1) (p:Int)=(l,0):=by
 obtain⟨h1,h2,h3⟩:=hw;rw[Nat.zero_add] at h2 h3;have hlen:=h2.len;have hbl:bl y.1 B.length=B:=h3
 have hb:∀ i (h:i<B.length),bt y.1 (0+i)=B[i]:=by
  intro i h;have:=congrArg (fun l=>l[i]?) hbl;simp[bl,h] at this
  rw[Nat.zero_add];exact this
 obtain⟨s',hd⟩:=ZsL y.1 (8 * y.1.length) p l 0 0 [] B hu (asc_chain l 0 (fun h=>(hu _ (List.getElem_mem h)).1) ha) (by omega) he hb (by omega);rw[DR];simp only;rw[if_neg (by omega),if_neg (by omega),show((p:Int)).toNat=p by omega,show((l.length:Int)).toNat=l.length by omega,hd,ZnD,if_neg (by omega),if_pos (Zql _ _ _ fun i hi=>h2.rest _ (by omega))];simp
end
section
set_option maxRecDepth 100000
def leV:List Int→Int
 | []=>0
 | x :: l=>x+256 * leV l
theorem Zbz (x:Int):IntKind.u8.wrap x=x % 256:=rfl
theorem ZwJ (n:Int) (k:Nat):Byt (Yl n k):=by
 intro x hx;obtain⟨i,_,rfl⟩:=List.mem_map.1 hx;rw[Zbz];omega
def rdS (d:List Int) (a:Int) (k:Nat):Int×Int×Int :=
 if a<0∨(d.length:Int)<a then(0,0,5) else if (d.length:Int)-a<k then(0,0,1) else(leV ((d.drop a.toNat).take k),a+k,0)
end
section
set_option maxRecDepth 100000
theorem ZxR {a b:List Int}(ha:Byt a) (hb:Byt b):Byt (a++b):=fun x hx=>(List.mem_append.1 hx).elim (ha x) (hb x)
end
noncomputable def idS (t:Tapi_Tx):Arr 32:=if Ye t=true then Za8 (Za8 (Xd t false)).l else zA 32
theorem Zph {t:Tapi_Tx}(h:Ye t=true):(Xd t false).length≤100000000:=by
 have h1:=ZqJ (Zix h);have h2:=ZxD (t:=t) (w:=false);omega
theorem Zw5 (t:Tapi_Tx):Zl6 t=some (idS t):=by
 unfold Zl6 ZfI Zdf idS;rw[ZnY,Za];by_cases h:Ye t=true
 ·have hn:¬ ¬ Ye t=true:=by simp[h]
  rw[if_neg hn,if_pos h,ZlG (ZjJ h),Za,Za,if_neg (by simp),ZnA (Zph h)];rfl
 ·rw[if_pos h,if_neg h]
  simp
theorem ZnE (t:Tapi_Tx):Zfz t=some (idS t):=by
 unfold Zfz idS;rw[ZfU,Za];by_cases h:Ye t=true
 ·have hn:¬ ¬ Ye t=true:=by simp[h]
  rw[if_neg hn,if_pos h,ZkN (ZjJ h),Za,Zn1 (Zph h)];rfl
 ·rw[if_pos h,if_neg h]
section
set_option maxRecDepth 100000
theorem Zmn {α β ρ:Type}{step:Int×List β→Option ((Int×List β) ⊕ ρ)}(l:List α) (f:α→List β) (acc:List β){x:Option ρ}
  (h:∀ i (hi:i<l.length),step ((i:Int),acc++(l.take i).flatMap f)=some (.inl (((i+1:Nat):Int),acc++(l.take i).flatMap f++f l[i])))
  (he:step ((l.length:Int),acc++l.flatMap f)=x.map .inr):Ze step (0,acc)=x:=by
 have key:=ZL (step:=step) (fun i=>((i:Int),acc++(l.take i).flatMap f)) l.length (x:=x) ?_ ?_
 ·simpa using key
 ·intro i hi
  rw[h i hi,Zbq f hi,List.append_assoc]
 ·simpa using he
def Zlr (h:Tapi_Header):List Int:=Yl (IntKind.u64.wrap h.1) 4++h.2.1.l++h.2.2.1.l++Yl (IntKind.u64.wrap h.2.2.2.1) 4++Yl (IntKind.u64.wrap h.2.2.2.2.1) 4++Yl (IntKind.u64.wrap h.2.2.2.2.2) 4
theorem ZjM (h:Tapi_Header):(Zlr h).length=80:=by simp[Zlr,h.2.1.hl,h.2.2.1.hl]
theorem Zpi (h:Tapi_Header):XA h=some (Zlr h):=by
 unfold XA;have l1:=h.2.1.hl;have l2:=h.2.2.1.hl;rw[Zje (by simp),Za,List.nil_append,ZpC (by simp),Za,ZpC (by simp[l1]),Za,Zje (by simp[l1,l2]),Za,Zje (by simp[l1,l2]),Za,Zje (by simp[l1,l2]),Za];rfl
theorem Zol (h:Tapi_Header):XB h=some (Zlr h):=by
 unfold XB;have l1:=h.2.1.hl;have l2:=h.2.2.1.hl;rw[Zeq (by simp),Za,List.nil_append,ZjG (by simp),Za,ZjG (by simp[l1]),Za]
 have h0:Yp h (0,Yl (IntKind.u64.wrap h.1) 4++h.2.1.l++h.2.2.1.l)=some (.inl (1,Yl (IntKind.u64.wrap h.1) 4++h.2.1.l++h.2.2.1.l++Yl (IntKind.u64.wrap h.2.2.2.1) 4)):=by
  simp only[Yp];rw[if_pos (by omega),show(0:Int)=((0:Nat):Int) from rfl,Yk (by omega)];simp only[List.getElem?_cons_zero,Za];rw[Zeq (by simp[l1,l2]),Za];rfl
 have h1:Yp h (1,Yl (IntKind.u64.wrap h.1) 4++h.2.1.l++h.2.2.1.l++Yl (IntKind.u64.wrap h.2.2.2.1) 4)=some (.inl (2,Yl (IntKind.u64.wrap h.1) 4++h.2.1.l++h.2.2.1.l++Yl (IntKind.u64.wrap h.2.2.2.1) 4++Yl (IntKind.u64.wrap h.2.2.2.2.1) 4)):=by
  simp only[Yp];rw[if_pos (by omega),show(1:Int)=((1:Nat):Int) from rfl,Yk (by omega)];simp only[List.getElem?_cons_zero,List.getElem?_cons_succ,Za];rw[Zeq (by simp[l1,l2]),Za];rfl
 have h2:Yp h (2,Yl (IntKind.u64.wrap h.1) 4++h.2.1.l++h.2.2.1.l++Yl (IntKind.u64.wrap h.2.2.2.1) 4++Yl (IntKind.u64.wrap h.2.2.2.2.1) 4)=some (.inl (3,Zlr h)):=by
  simp only[Yp];rw[if_pos (by omega),show(2:Int)=((2:Nat):Int) from rfl,Yk (by omega)];simp only[List.getElem?_cons_zero,List.getElem?_cons_succ,Za];rw[Zeq (by simp[l1,l2]),Za];rfl
 rw[Z1 h0,Z1 h1,Z1 h2];exact Za9 (by simp[Yp,ZeP])
noncomputable def ZoL (h:Tapi_Header):Arr 32:=Za8 (Za8 (Zlr h)).l
theorem ZrK (h:Tapi_Header):ZeO h=some (ZoL h):=by
 unfold ZeO;rw[Zpi,Za,ZnA (by rw[ZjM]; omega)];rfl
theorem ZiL (h:Tapi_Header):ZaB h=some (ZoL h):=by
 unfold ZaB;rw[Zol,Za,Zn1 (by rw[ZjM]; omega)];rfl
noncomputable def ZtU (a:Arr 32):Arr 2:=⟨[wdv (a.l.take 8),wdv ((a.l.drop 8).take 8)],rfl⟩
theorem ZxS (a:Arr 32):Zjt a=some (ZtU a):=by
 unfold Zjt;rw[Zn4 _ (by simp),Za,Zn4 _ (by simp)];rfl
theorem Zu9 (t:Tapi_Tx) (w:Bool):Zdf t w=some (if Ye t=true then(Xd t w,0) else([],4)):=by
 unfold Zdf;rw[ZnY,Za];by_cases h:Ye t=true
 ·rw[if_neg (by simp[h]),if_pos h,ZlG (ZjJ h)]
  rfl
 ·rw[if_pos h,if_neg h]
theorem ZxT (t:Tapi_Tx) (w:Bool):Zem t w=some (if Ye t=true then(Xd t w,0) else([],4)):=by
 unfold Zem;rw[ZfU,Za];by_cases h:Ye t=true
 ·rw[if_neg (by simp[h]),if_pos h,ZkN (ZjJ h)]
  rfl
 ·rw[if_pos h,if_neg h]
def Zls (b:Tapi_Block):List Int:=Zlr b.1++Za6 (b.2.length:Int)++b.2.flatMap fun t=>Xd t true
theorem ZhB {t:Tapi_Tx}(h:Ye t=true):(Xd t true).length≤20000:=by
 classical
 unfold Ye at h;simp only[decide_eq_true_eq] at h;exact h.2
theorem ZdE {α β:Type}(f:α→List β) (c:Nat):∀ (l:List α),(∀ a∈l,(f a).length≤c)→(l.flatMap f).length≤c * l.length
 | [],_=>by simp
 | a :: l,h=>by
  have h1:=h a (by simp);have h2:=ZdE f c l fun x hx=>h x (by simp[hx])
  rw[List.flatMap_cons,List.length_append,List.length_cons,Nat.mul_succ];omega
noncomputable def Zjf (b:Tapi_Block):List Int×Int:=by
 classical exact if 256<b.2.length then([],4) else if ∃ t∈b.2,¬ Ye t=true then([],4) else if 100000<(Zls b).length then([],4) else(Zls b,0)
theorem ZxU {b:Tapi_Block}(h:b.2.length≤256) (hf:∀ t∈b.2,Ye t=true) (i:Nat):(Zlr b.1++Za6 (b.2.length:Int)++(b.2.take i).flatMap fun t=>Xd t true).length≤10000000:=by
 have h1:=ZdE (fun t=>Xd t true) 20000 (b.2.take i) fun t ht=>ZhB (hf t (List.mem_of_mem_take ht))
 have h2:=Za4 (b.2.length:Int);have h3:20000 * (b.2.take i).length≤20000 * 256:=Nat.mul_le_mul_left _ (by rw[List.length_take]; omega);rw[List.length_append,List.length_append,ZjM];omega
theorem Zqm (b:Tapi_Block):ZcW b=some (Zjf b):=by
 classical
 unfold ZcW Zjf;by_cases h:256<b.2.length
 ·rw[if_pos (by omega),if_pos h]
 rw[if_neg (by omega),if_neg h,Zpi,Za,Zgx (by omega),ZkW (by omega) (by rw[ZjM]; omega),Za]
 have hpre:∀ i,(∀ t∈b.2.take i,Ye t=true)→(Zlr b.1++Za6 (b.2.length:Int)++(b.2.take i).flatMap fun t=>Xd t true).length≤10000000:=by
  intro i hi;have h1:=ZdE (fun t=>Xd t true) 20000 (b.2.take i) fun t ht=>ZhB (hi t ht)
  have h2:=Za4 (b.2.length:Int);have h3:20000 * (b.2.take i).length≤20000 * 256:=Nat.mul_le_mul_left _ (by rw[List.length_take]; omega);rw[List.length_append,List.length_append,ZjM];omega
 have key:=Zb4 (step:=Zb0 b) (fun i=>((i:Int),Zlr b.1++Za6 (b.2.length:Int)++(b.2.take i).flatMap fun t=>Xd t true)) b.2.length (fun i=>∃ h:i<b.2.length,¬ Ye b.2[i]=true) (some ([],4)) (some (if 100000<(Zls b).length then([],4) else(Zls b,0))) ?_ ?_ ?_ rfl
 ·have e:((∃ i,i<b.2.length∧∃ h:i<b.2.length,¬ Ye b.2[i]=true)↔∃ t∈b.2,¬ Ye t=true):=by
   constructor
   ·rintro⟨i,_,hi,h⟩
    exact⟨_,List.getElem_mem hi,h⟩
   ·rintro⟨t,ht,h⟩
    obtain⟨i,hi,rfl⟩:=List.getElem_of_mem ht;exact⟨i,hi,hi,h⟩
  simp only[List.take_zero,List.flatMap_nil,List.append_nil] at key;rw[show((0:Nat):Int)=0 from rfl] at key;rw[key];by_cases hb:∃ t∈b.2,¬ Ye t=true
  ·rw[if_pos (e.2 hb),if_pos hb]
  ·rw[if_neg (fun x=>hb (e.1 x)),if_neg hb]
 ·intro i hi hp hn
  have hf:Ye b.2[i]=true:=Decidable.byContradiction fun c=>hn ⟨hi,c⟩
  have hl:=hpre i fun t ht=>by
   obtain⟨j,hj,rfl⟩:=List.getElem_of_mem ht;rw[List.length_take] at hj;rw[List.getElem_take];exact Decidable.byContradiction fun c=>hp j (by omega) ⟨by omega,c⟩
  have hb:=ZhB hf;simp only[Zb0];rw[if_pos (by omega),Zi hi,Zu9,Za,if_pos hf];dsimp only;rw[if_neg (by simp),Zj (by omega),Zo hi (by omega),Zbq _ hi,List.append_assoc _ _ (Xd _ _)]
 ·rintro i hi hp ⟨_,hf⟩
  simp only[Zb0];rw[if_pos (by omega),Zi hi,Zu9,Za,if_neg hf];rfl
 ·intro _
  simp only[Zb0,List.take_length];rw[if_neg (by omega)];unfold ZfJ;rw[show(Zlr b.1++Za6 (b.2.length:Int)++b.2.flatMap fun t=>Xd t true)=Zls b from rfl];by_cases hc:100000<(Zls b).length
  ·rw[if_pos (by omega),if_pos hc]
  ·rw[if_neg (by omega),if_neg hc]
theorem ZtV {b:Tapi_Block}(h:b.2.length≤256) (hf:∀ t∈b.2,Ye t=true):Zen b=some (Zls b):=by
 unfold Zen;rw[Zol,Za,Zgx (by omega),Zlm (by omega) (by rw[ZjM]; omega),Za];refine Zmn b.2 (fun t=>Xd t true) _ ?_ ?_
 ·intro i hi
  have hl:=ZxU h hf i;have hfi:=hf _ (List.getElem_mem hi);have hb:=ZhB hfi;simp only[ZfN];rw[if_pos (by omega),Zi hi,ZxT,Za,if_pos hfi];dsimp only;rw[Zj (by omega),Zo hi (by omega)]
 ·simp only[ZfN]
  rw[if_neg (by omega)];rfl
noncomputable def Zjg (b:Tapi_Block):Bool:=by classical exact decide ((Zjf b).2=0)
theorem ZrL (b:Tapi_Block):Zgq b=some (Zjg b):=by
 classical
 unfold Zgq Zjg Zjf;by_cases h:256<b.2.length
 ·rw[if_pos (by omega),if_pos h]
  rfl
 rw[if_neg (by omega),if_neg h];by_cases hb:∃ t∈b.2,¬ Ye t=true
 ·rw[if_pos hb]
  have key:=ZeS (step:=Xu b) (fun i=>(i:Int)) b.2 (fun t=>¬ Ye t=true) (some false) (Zdv b) ?_ ?_ ?_ (s:=((0:Nat):Int)) rfl
  ·rw[show((0:Nat):Int)=0 from rfl,if_pos hb] at key
   rw[key];rfl
  ·intro i hi hn
   simp only[Xu];rw[if_pos (by omega),Zi hi,ZfU,Za,if_neg hn,Zo hi (by omega)]
  ·intro i hi hn
   simp only[Xu];rw[if_pos (by omega),Zi hi,ZfU,Za,if_pos hn];rfl
  ·simp only[Xu]
   rw[if_neg (by omega)]
 ·rw[if_neg hb]
  have hf:∀ t∈b.2,Ye t=true:=fun t ht=>Decidable.byContradiction fun c=>hb ⟨t,ht,c⟩
  have key:=ZeS (step:=Xu b) (fun i=>(i:Int)) b.2 (fun t=>¬ Ye t=true) (some false) (Zdv b) ?_ ?_ ?_ (s:=((0:Nat):Int)) rfl
  ·rw[show((0:Nat):Int)=0 from rfl,if_neg hb] at key
   rw[key];unfold Zdv;rw[ZtV (by omega) hf,Za];by_cases hc:100000<(Zls b).length
   ·rw[if_pos hc]
    simp
    omega
   ·rw[if_neg hc]
    simp
    omega
  ·intro i hi hn
   simp only[Xu];rw[if_pos (by omega),Zi hi,ZfU,Za,if_neg hn,Zo hi (by omega)]
  ·intro i hi hn
   simp only[Xu];rw[if_pos (by omega),Zi hi,ZfU,Za,if_pos hn];rfl
  ·simp only[Xu]
   rw[if_neg (by omega)]
theorem Zva (b:Tapi_Block) (h:¬ (Zjf b).2=0):Zjf b=([],4):=by
 unfold Zjf at h ⊢;split
 ·rfl
 ·rename_i c1
  split
  ·rfl
  ·rename_i c2
   split
   ·rfl
   ·rename_i c3
    rw[if_neg c1,if_neg c2,if_neg c3] at h;exact absurd rfl h
def ZjN (o:Tapi_Output):List (List Int):=if 0<o.2.length then[o.2] else[]
def inE (x:Tapi_Input):List (List Int):=[Zj8 x.1]
def txE (t:Tapi_Tx):List (List Int):=t.2.2.1.flatMap ZjN++if cbS t=true then[] else t.2.1.flatMap inE
def elS (b:Tapi_Block):List (List Int):=b.2.flatMap txE
def ZnF (b:Tapi_Block):Prop:=b.2.length≤256∧∀ t∈b.2,t.2.1.length≤100∧t.2.2.1.length≤100∧∀ o∈t.2.2.1,o.2.length≤100000
theorem ZmV (o:Tapi_Output):(ZjN o).length≤1:=by unfold ZjN; split <;> simp
theorem ZxV {t:Tapi_Tx}(h:t.2.1.length≤100∧t.2.2.1.length≤100):(txE t).length≤200:=by
 have h1:=ZdE ZjN 1 t.2.2.1 fun o _=>ZmV o
 have h2:=ZdE inE 1 t.2.1 fun o _=>by simp[inE]
 unfold txE;split <;> simp only[List.length_append,List.length_nil] <;> omega
theorem ZxW {b:Tapi_Block}(h:ZnF b) (i:Nat):((b.2.take i).flatMap txE).length≤51200:=by
 have h1:=ZdE txE 200 (b.2.take i) fun t ht=>ZxV ⟨(h.2 t (List.mem_of_mem_take ht)).1,(h.2 t (List.mem_of_mem_take ht)).2.1⟩
 have h2:=h.1;rw[List.length_take] at h1;omega
theorem ZwK {t:Tapi_Tx}(h:t.2.1.length≤100∧t.2.2.1.length≤100∧∀ o∈t.2.2.1,o.2.length≤100000) (acc:List (List Int)) (ha:acc.length≤1000000) (p:Int)
  {step:Int×List (List Int)→Option ((Int×List (List Int)) ⊕ ((Int×List (List Int)) ⊕ List (List Int)))}{K2:List (List Int)→Option ((Int×List (List Int)) ⊕ List (List Int))}{Cl:List Int→Option (List Int)}
  (hs:∀ p108 p109,step (p108,p109)=if p108<(t.2.2.1.length:Int) then(idx (t.2.2.1) (p108)).bind fun x131=>(if 0<(x131.2.length:Int) then(Cl x131.2).bind fun y135=>(chk (p109.length+1≤5864062014805)).bind fun _=>some (.inl (IntKind.i64.wrap (p108+1),p109++[y135])) else some (.inl (IntKind.i64.wrap (p108+1),p109))) else(K2 p109).map Sum.inr)
  (hC:∀ s:List Int,s.length≤100000→Cl s=some s):Ze step (0,acc)=K2 (acc++t.2.2.1.flatMap ZjN):=by
 refine Zmn t.2.2.1 ZjN acc ?_ ?_
 ·intro i hi
  have hl:=ZdE ZjN 1 (t.2.2.1.take i) fun o _=>ZmV o
  rw[List.length_take] at hl;rw[hs,if_pos (by omega),Zi hi,Zo hi (by omega)];unfold ZjN;by_cases h0:0<t.2.2.1[i].2.length
  ·rw[if_pos (by omega),if_pos h0,hC _ (h.2.2 _ (List.getElem_mem hi)),Za]
   refine Zj ?_;have:(acc++(t.2.2.1.take i).flatMap ZjN).length≤1000100:=by rw[List.length_append]; omega
   unfold ZjN at this;omega
  ·rw[if_neg (by omega),if_neg h0,List.append_nil]
 ·rw[hs,if_neg (by omega)]
theorem ZxX {t:Tapi_Tx}(h:t.2.1.length≤100∧t.2.2.1.length≤100∧∀ o∈t.2.2.1,o.2.length≤100000) (acc:List (List Int)) (ha:acc.length≤1000000)
  {step:Int×List (List Int)→Option ((Int×List (List Int)) ⊕ ((Int×List (List Int)) ⊕ List (List Int)))}{K3:List (List Int)→Option ((Int×List (List Int)) ⊕ List (List Int))}{Pt:Tapi_OutPoint→Option (List Int)}
  (hs:∀ p123 p124,step (p123,p124)=if p123<(t.2.1.length:Int) then(idx (t.2.1) (p123)).bind fun x128=>(Pt x128.1).bind fun y129=>(chk (p124.length+1≤5864062014805)).bind fun _=>some (.inl (IntKind.i64.wrap (p123+1),p124++[y129])) else(K3 p124).map Sum.inr)
  (hP:∀ o,Pt o=some (Zj8 o)):Ze step (0,acc)=K3 (acc++t.2.1.flatMap inE):=by
 refine Zmn t.2.1 inE acc ?_ ?_
 ·intro i hi
  have hl:=ZdE inE 1 (t.2.1.take i) fun o _=>by simp[inE]
  rw[List.length_take] at hl;have:(acc++(t.2.1.take i).flatMap inE).length≤1000100:=by rw[List.length_append]; omega
  rw[hs,if_pos (by omega),Zi hi,Zo hi (by omega),hP,Za,Zj (by omega)];rfl
 ·rw[hs,if_neg (by omega)]
theorem Zsf {b:Tapi_Block}(h:ZnF b):ZbZ b=some (elS b):=by
 unfold ZbZ;refine Zmn b.2 txE [] ?_ ?_
 ·intro i hi
  have hp:=ZxW h i;have hb:=h.1;have ht:=h.2 _ (List.getElem_mem hi);simp only[Zeb,List.nil_append];rw[if_pos (by omega),Zi hi];generalize hacc:(b.2.take i).flatMap txE=acc at hp ⊢;refine(ZwK ht acc (by omega) (i:Int) (K2:=Xz b.2[i] (i:Int)) (Cl:=Yy) (fun p q=>rfl) (fun s hs=>?_)).trans ?_
  ·unfold Yy
   exact Zj (by omega)
  ·have hl:=ZdE ZjN 1 b.2[i].2.2.1 fun o _=>ZmV o
   unfold Xz;rw[ZqK,Za,Zo hi (by omega),txE];by_cases hc:cbS b.2[i]=true
   ·rw[if_pos hc,if_pos hc,List.append_nil]
   ·rw[if_neg hc,if_neg hc]
    refine(ZxX ht _ (by rw[List.length_append]; omega) (K3:=Xy (i:Int)) (Pt:=Zfy) (fun p q=>rfl) Zrs).trans ?_;unfold Xy;rw[Zo hi (by omega),List.append_assoc]
 ·simp only[Zeb,List.nil_append]
  rw[if_neg (by omega)];rfl
def ZwL (b:Tapi_Block):Prop:=∀ t∈b.2,(∀ x∈t.2.1,Byt x.1.1.l)∧∀ o∈t.2.2.1,Byt o.2
theorem Zvb {b:Tapi_Block}(h:ZnF b) (hb:ZwL b):Zpg (elS b):=by
 intro x hx;obtain⟨t,ht,hx⟩:=List.mem_flatMap.1 hx;obtain⟨h1,h2⟩:=hb t ht;have h3:=(h.2 t ht).2.2;rw[txE,List.mem_append] at hx;rcases hx with hx | hx
 ·obtain⟨o,ho,hx⟩:=List.mem_flatMap.1 hx
  unfold ZjN at hx;split at hx
  ·obtain rfl:=List.mem_singleton.1 hx
   exact⟨h2 o ho,h3 o ho⟩
  ·cases hx
 ·split at hx
  ·cases hx
  ·obtain⟨y,hy,hx⟩:=List.mem_flatMap.1 hx
   obtain rfl:=List.mem_singleton.1 hx;exact⟨ZxR (h1 y hy) (ZwJ _ _),by simp⟩
end
section
set_option maxRecDepth 100000
abbrev M64 (x:Int):Prop:=0≤x∧x≤18446744073709551615
def dg (a:Arr 4):Prop:=∀ i,i<4→M64 (a.at i)
theorem dg_zero:dg (zA 4):=by
 intro i hi;have:i=0∨i=1∨i=2∨i=3:=by omega
 rcases this with rfl | rfl | rfl | rfl <;> exact⟨by decide,by decide⟩
theorem Zgb {a:Arr 4}(h:dg a){j:Nat}(hj:j<4){x:Int}(hx:M64 x):dg (a.put j x):=by
 intro i hi;by_cases e:j=i
 ·subst e
  rw[Arr.at_put _ hi];exact hx
 ·rw[Arr.at_put_ne _ e]
  exact h i hi
theorem Zh6 (x:Int):M64 (IntKind.u64.wrap x):=ZmU x
theorem Zjh (op:BinOp) (x y:Int):M64 (bits op .u64 x y):=ZoK op x y
theorem Zn5 {n:Int}(h:M64 n):dg ((zA 4).put 0 n):=Zgb dg_zero (by omega) h
theorem ZfV {n:Int}(h:0≤n) (m:Int):n.tdiv m=n / m:=Int.tdiv_eq_ediv_of_nonneg h
theorem Zd6 {n:Int}(h:0≤n) (m:Int):n.tmod m=n % m:=Int.tmod_eq_emod_of_nonneg h
theorem ZkX (a:Arr 4){n:Int}(h0:0≤n) (h1:n<256):Tot (Zbg a n) fun _=>True:=by
 unfold Zbg;rw[ZfV h0,Zd6 h0,wi (n / 64) (by omega)];refine Xe (by omega) (by omega) fun j _ hj=>Zz (by omega) (Zb trivial)
theorem ZsM (a:Arr 4):Tot (Zcb a) fun r=>0≤r∧r≤256:=by
 unfold Zcb;refine ZF (I:=fun(n:Nat) (s:Int)=>s+1=(n:Int)∧s≤255) (n:=256) ?_ ⟨by omega,by omega⟩;rintro n s ⟨hs,hs2⟩
 simp only[Zif];refine Zf (fun h=>?_) (fun h=>?_)
 ·refine(ZkX a h (by omega)).bind fun y _=>Zf (fun _=>?_) (fun _=>?_)
  ·exact Zb (show 0≤IntKind.i64.wrap (s+1)∧IntKind.i64.wrap (s+1)≤256 by rw[wi (s+1) (by omega)]; omega)
  ·exact Zb ⟨n-1,by omega,by rw[wi _ (by omega)]; omega,by rw[wi _ (by omega)]; omega⟩
 ·exact Tot.out (Zb (by omega))
theorem ZnG {x y c:Int}(hx:M64 x) (hy:M64 y) (hc:0≤c∧c≤1):Tot (Xl x y c) fun r=>M64 r.1∧0≤r.2∧r.2≤1:=by
 unfold Xl;exact Zz (by omega) (Zb ⟨by simp only; omega,by simp only; omega⟩)
theorem ZsN {a b:Arr 4}(ha:dg a) (hb:dg b):Tot (ZfK a b) fun r=>dg r.1:=by
 unfold ZfK;refine ZF (I:=fun(n:Nat) (s:Int×Int×Arr 4)=>s.2.1+(n:Int)=4∧0≤s.2.1∧(0≤s.1∧s.1≤1)∧dg s.2.2) (n:=4) ?_ ⟨by simp,by simp,by simp,dg_zero⟩;rintro n ⟨c,i,r⟩ ⟨h1,h2,h3,h4⟩
 dsimp only at h1 h2 h3 h4;simp only[Zkj];refine Zf (fun h=>?_) (fun h=>?_)
 ·refine Xe h2 h fun j hj hj4=>?_
  refine(ZnG (ha j hj4) (hb j hj4) h3).bind fun y hy=>Zb ⟨n-1,by omega,?_,?_,hy.2,Zgb h4 hj4 hy.1⟩
  ·dsimp only
   rw[wi _ (by omega)];omega
  ·dsimp only
   rw[wi _ (by omega)];omega
 ·exact Tot.out (Zb h4)
theorem ZsO {a:Arr 4}(ha:dg a){n:Int}(hn:n≤100000):Tot (ZfL a n) dg:=by
 unfold ZfL;refine Zf (fun _=>Zb dg_zero) (fun h=>?_);refine ZF (I:=fun(k:Nat) (s:Int×Arr 4)=>s.1≤(k:Int)∧s.1≤100000∧dg s.2) (n:=n.toNat) ?_ ⟨by dsimp only; omega,hn,ha⟩;rintro k ⟨i,r⟩ ⟨h1,h1b,h2⟩
 dsimp only at h1 h1b h2;simp only[Lref02_Shl_s1];refine Zf (fun h=>?_) (fun h=>?_)
 ·refine(ZsN h2 h2).bind fun y hy=>Zb ⟨k-1,by omega,?_,?_,hy⟩
  ·dsimp only
   rw[wi _ (by omega)];omega
  ·dsimp only
   rw[wi _ (by omega)];omega
 ·exact Tot.out (Zb h2)
theorem Zn6 {a:Arr 4}(ha:dg a) (n:Int):Tot (Zbh a n) dg:=by
 unfold Zbh;refine Zf (fun _=>Zb ha) (fun h=>Zf (fun _=>Zb dg_zero) (fun h'=>?_));refine ZF (I:=fun(k:Nat) (s:Int×Arr 4)=>s.1+(k:Int)=256∧0≤s.1∧dg s.2) (n:=256) ?_ ⟨by simp,by simp,dg_zero⟩;rintro k ⟨i,r⟩ ⟨h1,h2,h3⟩
 dsimp only at h1 h2 h3;simp only[Zie,Zel];rw[wi (i+n) (by omega)];refine Zf (fun h=>?_) (fun h=>?_)
 ·refine(ZkX a (by omega) h).bind fun y _=>Zf (fun _=>?_) (fun _=>?_)
  ·rw[ZfV h2,Zd6 h2,wi (i / 64) (by omega)]
   refine Xe (by omega) (by omega) fun j hj hj4=>Zz (by omega) (Zb ⟨k-1,by omega,?_,?_,Zgb h3 hj4 (Zjh _ _ _)⟩)
   ·dsimp only
    rw[wi _ (by omega)];omega
   ·dsimp only
    rw[wi _ (by omega)];omega
  ·refine Zb ⟨k-1,by omega,?_,?_,h3⟩
   ·dsimp only
    rw[wi _ (by omega)];omega
   ·dsimp only
    rw[wi _ (by omega)];omega
 ·exact Tot.out (Zb h3)
theorem ZqE (a:Arr 32):Tot (ZaS a) dg:=by
 unfold ZaS;refine ZF (I:=fun(k:Nat) (s:Int×Arr 4)=>s.1+(k:Int)=32∧0≤s.1∧dg s.2) (n:=32) ?_ ⟨by simp,by simp,dg_zero⟩;rintro k ⟨i,r⟩ ⟨h1,h2,h3⟩
 dsimp only at h1 h2 h3;simp only[ZgD];refine Zf (fun h=>?_) (fun h=>?_)
 ·rw[wi (31-i) (by omega),ZfV (by omega),Zd6 (by omega),wi ((31-i) / 8) (by omega),wi (8 * ((31-i) % 8)) (by omega)]
  refine Xe (by omega) (by omega) fun j hj hj4=>Xe h2 h fun j2 hj2 _=>Zz (by omega) (Zb ⟨k-1,by omega,?_,?_,Zgb h3 hj4 (Zjh _ _ _)⟩)
  ·dsimp only
   rw[wi _ (by omega)];omega
  ·dsimp only
   rw[wi _ (by omega)];omega
 ·exact Tot.out (Zb h3)
theorem Zlt (a:Arr 4):Tot (Zca a) fun _=>True:=Zb trivial
theorem ZkY (a b:Arr 4):Tot (Xk a b) fun _=>True:=by
 unfold Xk;refine ZF (I:=fun(n:Nat) (s:Int)=>s+1=(n:Int)∧s≤3) (n:=4) ?_ ⟨by omega,by omega⟩;rintro n s ⟨hs,hs2⟩
 simp only[Zke];refine Zf (fun h=>?_) (fun h=>?_)
 ·refine Xe h (by omega) fun j _ hj=>Zf (fun _=>Zb trivial) (fun _=>Zf (fun _=>Zb trivial) (fun _=>?_))
  exact Zb ⟨n-1,by omega,by rw[wi _ (by omega)]; omega,by rw[wi _ (by omega)]; omega⟩
 ·exact Tot.out (Zb trivial)
theorem ZmW (n:Int):Zas n=some ((zA 4).put 0 n):=rfl
abbrev M32 (x:Int):Prop:=0≤x∧x≤4294967295
theorem ZmX {n:Int}(hn:M32 n):Tot (ZbF n) fun r=>dg r.1:=by
 unfold ZbF;have f1:n.fdiv 16777216=n / 16777216:=by rw[Int.fdiv_eq_ediv_of_nonneg _ (by omega)]
 rw[f1];have hx:0≤n / 16777216∧n / 16777216≤255:=by omega
 generalize n / 16777216=x at hx
 have hk:∀ p,dg p→Tot (ZdU p) fun r=>dg r.1:=by
  intro p hp;unfold ZdU;exact(Zlt p).bind fun y _=>Zf (fun _=>Zb dg_zero) (fun _=>Zb hp)
 rw[ZmW,Za,wi x (by omega)];have hm:=Zn5 (Zh6 (bits .and .u32 n 16777215));refine Zf (fun _=>Zb dg_zero) (fun _=>Zf (fun h=>?_) (fun h=>?_))
 ·exact(Zn6 hm _).bind fun y hy=>hk y hy
 ·refine(Zlt _).bind fun y _=>?_
  rw[wi (x-3) (by omega),wi (8 * (x-3)) (by omega)]
  have h5:Tot (if ¬ (y=true) then(Zcb ((zA 4).put 0 (IntKind.u64.wrap (bits .and .u32 n 16777215)))).bind fun y11=>some (decide (256<IntKind.i64.wrap (y11+8 * (x-3)))) else some false) fun _=>True :=
   Zf (fun _=>(ZsM _).bind fun z _=>Zb trivial) (fun _=>Zb trivial)
  refine h5.bind fun z _=>Zf (fun _=>Zb dg_zero) (fun _=>?_)
  exact(ZsO hm (by omega)).bind fun q hq=>hk q hq
theorem Zqn (a:Arr 32){n:Int}(hn:M32 n):Tot (ZdV a n) fun _=>True:=by
 unfold ZdV;refine(ZmX hn).bind fun y _=>?_
 have h5:Tot (if y.2=0 then(ZaS a).bind fun y2=>(Xk y2 y.1).bind fun y3=>some (decide (y3≤0)) else some false) fun _=>True :=
  Zf (fun _=>(ZqE a).bind fun z _=>(ZkY _ _).bind fun q _=>Zb trivial) (fun _=>Zb trivial)
 exact h5.bind fun z _=>Zb trivial
theorem Zvc (op:BinOp) (x y:Int):M32 (bits op .u32 x y):=by
 show M32 (IntKind.u32.wrap _)
 rw[ZmT];omega
end
section
set_option maxRecDepth 100000
theorem ZzK (L:List (List Int)) (hl:L.length≤1000000) (h:(L.flatMap id).length≤1000000000):Xt L=some (L.flatMap id):=by
 unfold Xt;refine Zmn L id [] ?_ ?_
 ·intro i hi
  have h1:=ZeG L id (i+1);rw[Zbq id hi,List.length_append] at h1;simp only[Zae,List.nil_append];rw[if_pos (by omega),Zi hi,X8 (by simp only[id] at h1 ⊢; omega),Za,Zo hi (by omega)];rfl
 ·simp only[Zae,List.nil_append]
  rw[if_neg (by omega)];rfl
noncomputable def ZqL (t:Tapi_Tx):Arr 32:=if Ye t=true then Za8 (Za8 (Xd t true)).l else zA 32
theorem ZrM (t:Tapi_Tx):Zgo t=some (ZqL t):=by
 unfold Zgo ZqL;rw[ZfU,Za];by_cases h:Ye t=true
 ·have hb:=ZhB h
  rw[if_neg (by simp[h]),if_pos h,ZkN (ZjJ h),Za,Zn1 (by omega)];rfl
 ·rw[if_pos h,if_neg h]
noncomputable def ZqM (a b:Arr 32):Arr 32:=Za8 ([1]++(a.l++b.l))
theorem ZsP (a b:Arr 32):Zgp a b=some (ZqM a b):=by
 unfold Zgp;have ha:=a.hl;have hb:=b.hl;rw[ZzK _ (by simp) (by simp[ha,hb]),Za,ZiJ (by simp[ha,hb]),Za];simp[ZqM]
theorem ZtW (l:List (Arr 32)) (h1:1≤l.length) (h2:l.length≤1024):Tot (ZbG l) fun r=>(1≤r.length∧r.length≤1025)∧∀ x∈r,1≤x.length:=by
 unfold ZbG;refine ZF (I:=fun(n:Nat) (s:List (Arr 32)×List (List (Arr 32)))=>s.1.length≤n∧1≤s.1.length∧1≤s.2.length∧s.2.length+s.1.length≤1025∧∀ x∈s.2,1≤x.length) (n:=1024) ?_ ⟨h2,h1,by simp,by simp; omega,by simpa using h1⟩;rintro n ⟨p,q⟩ ⟨k1,k2,k3,k4,k5⟩
 dsimp only at k1 k2 k3 k4 k5;simp only[Lref07_levels_s1];refine Zf (fun h=>?_) (fun h=>Tot.out (Zb ⟨⟨k3,by omega⟩,k5⟩));refine ZF (I:=fun(m:Nat) (s:Int×List (Arr 32))=>s.1=2 * (s.2.length:Int)∧s.1<p.length+2∧(p.length:Int)+2≤s.1+(m:Int)) (n:=p.length+2) ?_ ⟨by simp,by simp; omega,by simp⟩;rintro m ⟨i,acc⟩ ⟨g1,g2,g3⟩
 dsimp only at g1 g2 g3;simp only[ZdY,Zb2];refine Zf (fun hlt=>?_) (fun hlt=>?_)
 ·rw[wi (i+1) (by omega)]
  refine Zf (fun hlt2=>?_) (fun hlt2=>?_)
  ·refine Xj (by omega) hlt fun x _=>Xj (by omega) hlt2 fun y _=>?_
   rw[ZsP,Za];refine Zz (by omega) (Zb ⟨m-2,by omega,?_,?_,?_⟩)
   ·dsimp only
    rw[wi _ (by omega)];simp
    omega
   ·dsimp only
    rw[wi _ (by omega)];omega
   ·dsimp only
    rw[wi _ (by omega)];omega
  ·refine Xj (by omega) hlt fun x _=>?_
   refine Zz (by omega) (Zb ⟨m-2,by omega,?_,?_,?_⟩)
   ·dsimp only
    rw[wi _ (by omega)];simp
    omega
   ·dsimp only
    rw[wi _ (by omega)];omega
   ·dsimp only
    rw[wi _ (by omega)];omega
 ·refine Tot.out ?_
  unfold ZdX;refine Zz (by omega) (Zb ⟨n-1,by omega,?_,?_,?_,?_,?_⟩)
  ·dsimp only
   omega
  ·dsimp only
   omega
  ·simp
  ·simp only[List.length_append,List.length_singleton]
   omega
  ·intro x hx
   simp only[List.mem_append,List.mem_singleton] at hx;rcases hx with hx | rfl
   ·exact k5 x hx
   ·omega
theorem Zvd (l:List (Arr 32)):Tot (Zdj l) fun _=>True:=by
 unfold Zdj;refine Zf (fun _=>Zb trivial) (fun h=>?_);refine(ZtW l (by omega) (by omega)).bind fun y hy=>?_
 rw[wi _ (by omega)];refine Xe (by omega) (by omega) fun j _ hj=>Zer hj fun x hx=>?_
 have:=hy.2 x (List.mem_of_getElem? hx);exact Zer (by omega) fun z _=>Zb trivial
theorem Zpj (l:List Tapi_Tx) (hl:l.length≤1000000):Tot (Zcc l) fun _=>True:=by
 unfold Zcc;refine ZF (I:=fun(n:Nat) (s:Int×List (Arr 32))=>s.1+(n:Int)=(l.length:Int)∧(s.2.length:Int)=s.1) (n:=l.length) ?_ ⟨by simp,by simp⟩;rintro n ⟨i,acc⟩ ⟨h1,h2⟩
 dsimp only at h1 h2;simp only[Zfd];refine Zf (fun h=>?_) (fun h=>?_)
 ·refine Xj (by omega) h fun x _=>?_
  rw[ZrM,Za];refine Zz (by omega) (Zb ⟨n-1,by omega,?_,?_⟩)
  ·dsimp only
   rw[wi _ (by omega)];omega
  ·dsimp only
   rw[wi _ (by omega)];simp
   omega
 ·refine Tot.out ?_
  unfold Zfc;exact(Zvd _).bind fun _ _=>Zb trivial
theorem ZlV {b:Tapi_Block}(h:Zjg b=true):b.2.length≤256∧(∀ t∈b.2,Ye t=true)∧Zjf b=(Zls b,0):=by
 classical
 unfold Zjg at h;have h:=of_decide_eq_true h;unfold Zjf at h ⊢;by_cases c1:256<b.2.length
 ·rw[if_pos c1] at h; simp at h
 rw[if_neg c1] at h ⊢;by_cases c2:∃ t∈b.2,¬ Ye t=true
 ·rw[if_pos c2] at h; simp at h
 rw[if_neg c2] at h ⊢;by_cases c3:100000<(Zls b).length
 ·rw[if_pos c3] at h; simp at h
 rw[if_neg c3];exact⟨by omega,fun t ht=>Decidable.byContradiction fun c=>c2 ⟨t,ht,c⟩,rfl⟩
theorem XC {α ρ:Type}{step:Int→Option (Int ⊕ ρ)}{Q:ρ→Prop}(l:List α) (J:Nat→Prop) (hl:l.length≤1000000000) (h0:J 0)
  (h:∀ i (hi:i<l.length),J i→Tot (step (i:Int)) fun | .inl s=>s=((i+1:Nat):Int)∧J (i+1) | .inr r=>Q r)
  (he:J l.length→∃ r,step (l.length:Int)=some (.inr r)∧Q r):Tot (Ze step 0) Q:=by
 refine ZF (I:=fun(n:Nat) (s:Int)=>∃ i:Nat,s=i∧i+n=l.length∧J i) (n:=l.length) ?_ ⟨0,rfl,by simp,h0⟩;rintro n _ ⟨i,rfl,hi,hJ⟩
 by_cases hlt:i<l.length
 ·refine(h i hlt hJ).mono fun x hx=>?_
  cases x with
  | inl s=>exact⟨n-1,by omega,i+1,hx.1,by omega,hx.2⟩
  | inr r=>exact hx
 ·obtain rfl:i=l.length:=by omega
  obtain⟨r,hr,hq⟩:=he hJ;exact⟨.inr r,hr,hq⟩
theorem Zqo (ids:List (Arr 32)) (a:Arr 32) (hl:ids.length≤1000000):Tot (Zbj ids a) fun r=>-1≤r∧r<1000000:=by
 unfold Zbj;refine XC ids (fun _=>True) (by omega) trivial ?_ ?_
 ·intro i hi _
  simp only[Zbi];rw[if_pos (by omega),Zi hi];refine Zf (fun _=>Zb (by dsimp only; omega)) (fun _=>Zb ⟨Zo hi (by omega),trivial⟩)
 ·intro _
  simp only[Zbi];rw[if_neg (by omega)];exact⟨-1,rfl,by omega⟩
theorem Zom {b:Tapi_Block}(hb:b.2.length≤256) (ht:∀ t∈b.2,t.2.1.length≤1000) (ids:List (Arr 32)) (hl:ids.length≤1000000):Tot (ZaZ b ids) fun _=>True:=by
 unfold ZaZ;refine XC b.2 (fun _=>True) (by omega) trivial ?_ ?_
 ·intro i hi _
  have h1:=ht _ (List.getElem_mem hi);simp only[Zc3];rw[if_pos (by omega),Zi hi];refine XC b.2[i].2.1 (fun _=>True) (by omega) trivial ?_ ?_
  ·intro j hj _
   simp only[Zbu];rw[if_pos (by omega),Zi hj];refine(Zqo ids _ hl).bind fun y _=>Zf (fun _=>Zb (by trivial)) (fun _=>Zb ⟨Zo hj (by omega),trivial⟩)
  ·intro _
   simp only[Zbu];rw[if_neg (by omega)];exact⟨.inl ((i+1:Nat):Int),by simp only[Zbt]; rw[Zo hi (by omega)]; rfl,rfl,trivial⟩
 ·intro _
  simp only[Zc3];rw[if_neg (by omega)];exact⟨false,rfl,trivial⟩
theorem Zve {b:Tapi_Block}(hb:b.2.length≤256) (ht:∀ t∈b.2,t.2.1.length≤1000):Tot (Zct b) fun _=>True:=by
 unfold Zct;refine ZF (I:=fun(n:Nat) (s:Int×List Tapi_OutPoint)=>s.1+(n:Int)=(b.2.length:Int)∧0≤s.1∧(s.2.length:Int)≤s.1 * 1000) (n:=b.2.length) ?_ ⟨by simp,by simp,by simp⟩;rintro n ⟨i,acc⟩ ⟨h1,h2,h3⟩
 dsimp only at h1 h2 h3;simp only[Zey];refine Zf (fun h=>?_) (fun h=>Tot.out (Zb trivial));refine Xj h2 h fun t htm=>?_
 have h4:=ht t htm;refine ZF (I:=fun(m:Nat) (s:Int×List Tapi_OutPoint)=>s.1+(m:Int)=(t.2.1.length:Int)∧0≤s.1∧(s.2.length:Int)≤i * 1000+s.1) (n:=t.2.1.length) ?_ ⟨by simp,by simp,by simp; omega⟩;rintro m ⟨j,acc⟩ ⟨g1,g2,g3⟩
 dsimp only at g1 g2 g3;simp only[Zbk];refine Zf (fun hj=>?_) (fun hj=>?_)
 ·refine Xj g2 hj fun x _=>?_
  refine XC acc (fun _=>True) (by omega) trivial ?_ ?_
  ·intro k hk _
   simp only[XK];rw[if_pos (by omega),Yk hk,ZaV hk];exact Zf (fun _=>Zb (by trivial)) (fun _=>Zb ⟨Zo hk (by omega),trivial⟩)
  ·intro _
   simp only[XK];rw[if_neg (by omega)];simp only[XJ];rw[Zj (by omega),wi _ (by omega)];exact⟨.inl (j+1,acc++[x.1]),rfl,m-1,by omega,by dsimp only; omega,by dsimp only; omega,by simp; omega⟩
 ·refine Tot.out (Zb ⟨n-1,by omega,?_,?_,?_⟩)
  ·dsimp only
   rw[wi _ (by omega)];omega
  ·dsimp only
   rw[wi _ (by omega)];omega
  ·dsimp only
   rw[wi _ (by omega)];omega
structure ZtX (b:Tapi_Block):Prop where
 fits:Zjg b=true
 ne:b.2≠[]
 cb:∀ i (h:i<b.2.length),cbS b.2[i]=decide (i=0)
 chk:∀ t∈b.2,Zh3 t=0
structure ZmY (b:Tapi_Block):Prop extends ZtX b where
 ok:ZaC b=some 0
theorem ZrN (b:Tapi_Block):Tot (ZaC b) fun r=>r=0→ZtX b:=by
 unfold ZaC;rw[ZrL,Za];refine Zf (fun _=>Zb (by simp)) (fun hf=>?_);have hf:Zjg b=true:=by simpa using hf
 obtain⟨hb,hft,-⟩:=ZlV hf;have hin:∀ t∈b.2,t.2.1.length≤1000:=fun t ht=>by have:=(Zix (hft t ht)).1; omega
 refine Zf (fun _=>Zb (by simp)) (fun hne=>?_);have hne':b.2≠[]:=by rintro h; rw[h] at hne; simp at hne
 refine XC b.2 (fun n=>∀ i (h:i<b.2.length),i<n→cbS b.2[i]=decide (i=0)) (by omega) (fun i _ h=>absurd h (by omega)) ?_ ?_
 ·intro i hi hJ
  simp only[ZcI];rw[if_pos (by omega),Zi hi,Zmm,Za];refine Zf (fun _=>Zb (by simp)) (fun hc=>Zb ⟨Zo hi (by omega),fun k hk hk2=>?_⟩);by_cases e:k=i
  ·subst e
   have hc:(cbS b.2[k] == decide ((k:Int)=0))=true:=by simpa using hc
   have:=eq_of_beq hc;rw[this]
   congr 1
   simp
  ·exact hJ k hk (by omega)
 ·intro hcb
  simp only[ZcI];rw[if_neg (by omega)];refine Tot.inr ?_;unfold Zat;refine XC b.2 (fun n=>∀ i (h:i<b.2.length),i<n→Zh3 b.2[i]=0) (by omega) (fun i _ h=>absurd h (by omega)) ?_ ?_
  ·intro i hi hJ
   simp only[ZcH];rw[if_pos (by omega),Zi hi,Zny,Za];refine Zf (fun hc=>Zb (by intro h; exact absurd h hc)) (fun hc=>Zb ⟨Zo hi (by omega),fun k hk hk2=>?_⟩);by_cases e:k=i
   ·subst e
    simpa using hc
   ·exact hJ k hk (by omega)
  ·intro hck
   have hB:ZtX b:=⟨hf,hne',fun i h=>hcb i h h,fun t ht=>by
    obtain⟨i,hi,rfl⟩:=List.getElem_of_mem ht
    exact hck i hi hi⟩
   simp only[ZcH];rw[if_neg (by omega)];refine Tot.inr (Tot.mono (P:=fun _=>True) ?_ fun _ _ _=>hB);unfold XM;refine ZF (I:=fun(n:Nat) (s:Int×List (Arr 32))=>s.1+(n:Int)=(b.2.length:Int)∧(s.2.length:Int)=s.1) (n:=b.2.length) ?_ ⟨by simp,by simp⟩;rintro n ⟨i,ids⟩ ⟨h1,h2⟩
   dsimp only at h1 h2;simp only[Zbl];refine Zf (fun h=>?_) (fun h=>?_)
   ·refine Xj (by omega) h fun x _=>?_
    rw[ZnE,Za];refine(Zqo ids _ (by omega)).bind fun y _=>Zf (fun _=>Zb trivial) (fun _=>?_)
    refine Zz (by omega) (Zb ⟨n-1,by omega,?_,?_⟩)
    ·dsimp only
     rw[wi _ (by omega)];omega
    ·dsimp only
     rw[wi _ (by omega)];simp
     omega
   ·refine Tot.out ?_
    unfold XL;refine(Zom hb hin ids (by omega)).bind fun y _=>Zf (fun _=>Zb trivial) (fun _=>?_)
    refine(Zve hb hin).bind fun y _=>Zf (fun _=>Zb trivial) (fun _=>?_)
    exact(Zpj b.2 (by omega)).bind fun y _=>Zf (fun _=>Zb trivial) (fun _=>Zb trivial)
theorem Zsg (b:Tapi_Block):Tot (ZaC b) fun r=>r=0→ZmY b:=by
 obtain⟨r,hr,h⟩:=ZrN b;exact⟨r,hr,fun h0=>⟨h h0,h0 ▸ hr⟩⟩
end
section
set_option maxRecDepth 100000
structure PrmOk (p:Tapi_Params):Prop where
 bits:M32 p.1.2.2.2.2.1
 lim:dg p.2.1
 win:1≤p.2.2.1∧p.2.2.1≤4096
 spa:1≤p.2.2.2.1∧p.2.2.2.1≤1048576
 cps:p.2.2.2.2.2.2.1=[]
 sub:0≤p.2.2.2.2.2.2.2.1∧p.2.2.2.2.2.2.2.1≤2100000000000000
 hal:1≤p.2.2.2.2.2.2.2.2.1∧p.2.2.2.2.2.2.2.2.1≤16777216
theorem ZeU {p:Tapi_Params}(h:PrmOk p):Tot (Xp p) fun _=>True:=by
 unfold Xp;refine(Zlt _).bind fun y _=>Zf (fun _=>Zb trivial) (fun _=>Zf (fun _=>Zb trivial) (fun _=>?_))
 refine XC ([]:List Nat) (fun _=>True) (by simp) trivial (fun i hi=>absurd hi (by simp)) fun _=>?_
 simp only[Zi1];rw[h.cps,if_neg (by simp)]
 have hk:Tot (ZgH p) fun _=>True:=by
  unfold ZgH;refine(ZmX h.bits).bind fun y _=>?_
  have h5:Tot (if y.2=0 then(Xk y.1 p.2.1).bind fun y17=>some (decide (y17≤0)) else some false) fun _=>True :=
   Zf (fun _=>(ZkY _ _).bind fun z _=>Zb trivial) (fun _=>Zb trivial)
  exact h5.bind fun z _=>Zb trivial
 obtain⟨b,hb,-⟩:=hk;rw[hb];exact⟨b,rfl,trivial⟩
theorem Zon {p:Tapi_Params}(h:PrmOk p){n:Int}(hn:n≤100000000):Tot (Zb1 p n) fun r=>0≤r∧r≤2100000000000000:=by
 unfold Zb1;refine(ZeU h).bind fun y _=>Zf (fun _=>Zb (by omega)) (fun h0=>?_)
 have hn0:0≤n:=by
  apply Decidable.byContradiction
  intro c;exact h0 (.inr (by omega))
 have hh:=h.hal;have hs:=h.sub;refine Zz (by omega) ?_;have e:n.tdiv p.2.2.2.2.2.2.2.2.1=n / p.2.2.2.2.2.2.2.2.1:=ZfV hn0 _;have e2:0≤n / p.2.2.2.2.2.2.2.2.1:=Int.ediv_nonneg hn0 (by omega);have e3:n / p.2.2.2.2.2.2.2.2.1≤n:=Int.ediv_le_self _ hn0;rw[e,wi _ (by omega)];generalize n / p.2.2.2.2.2.2.2.2.1=k at e2 e3;refine ZF (I:=fun(m:Nat) (s:Int×Int)=>(0≤s.1∧s.1≤2100000000000000)∧s.2≤(m:Int)∧0≤s.2∧s.2≤100000000) (n:=k.toNat) ?_ ⟨hs,by dsimp only; omega,e2,by dsimp only; omega⟩;rintro m ⟨s,j⟩ ⟨h1,h2,h3,h4⟩
 dsimp only at h1 h2 h3 h4;simp only[Lref23_Subsidy_s1];refine Zf (fun hc=>?_) (fun hc=>Tot.out (Zb h1));rw[ZfV h1.1,wi (s / 2) (by omega),wi (j-1) (by omega)];exact Zb ⟨m-1,by omega,by dsimp only; omega,by dsimp only; omega,by dsimp only; omega,by dsimp only; omega⟩
theorem Zqp (t:Tapi_Tx) (ht:t.2.1.length≤1000) (n:Int):Tot (ZaD t n) fun _=>True:=by
 unfold ZaD;refine Zf (fun _=>Zb trivial) (fun _=>?_);refine XC t.2.1 (fun _=>True) (by omega) trivial ?_ ?_
 ·intro i hi _
  simp only[ZgI];rw[if_pos (by omega),Zi hi];exact Zf (fun _=>Zb (by trivial)) (fun _=>Zb ⟨Zo hi (by omega),trivial⟩)
 ·intro _
  simp only[ZgI];rw[if_neg (by omega)];exact⟨true,rfl,trivial⟩
theorem Zoo (a b:Tapi_OutPoint):Tot (Xc a b) fun _=>True:=by
 unfold Xc;refine ZF (I:=fun(n:Nat) (s:Int)=>s+(n:Int)=32∧0≤s) (n:=32) ?_ ⟨by omega,by omega⟩;rintro n s ⟨h1,h2⟩
 simp only[ZhF];refine Zf (fun h=>?_) (fun h=>?_)
 ·refine Xe h2 h fun j _ hj=>Zf (fun _=>Zb trivial) (fun _=>Zf (fun _=>Zb trivial) (fun _=>?_))
  exact Zb ⟨n-1,by omega,by rw[wi _ (by omega)]; omega,by rw[wi _ (by omega)]; omega⟩
 ·refine Tot.out ?_
  unfold ZhE;exact Zf (fun _=>Zb trivial) (fun _=>Zf (fun _=>Zb trivial) (fun _=>Zb trivial))
theorem Zvf (l:Tapi_Ledger) (hl:l.2.2.length≤1000000000):Tot (ZdZ l) fun _=>True:=by
 unfold ZdZ;refine Zf (fun _=>Zb trivial) (fun h=>?_);refine ZF (I:=fun(n:Nat) (s:Int×Int)=>s.2+(n:Int)=(l.2.2.length:Int)∧0≤s.2) (n:=l.2.2.length) ?_ ⟨by simp,by simp⟩;rintro n ⟨s,i⟩ ⟨h1,h2⟩
 dsimp only at h1 h2;simp only[Zi2];refine Zf (fun hi=>?_) (fun hi=>Tot.out (Zb trivial));refine Xj h2 hi fun x _=>?_
 have h5:Tot (if 0<i then(idx (l.2.2) (IntKind.i64.wrap (i-1))).bind fun x18=>(Xc x18.1 x.1).bind fun y19=>some (decide (0≤y19)) else some false) fun _=>True:=by
  refine Zf (fun h0=>?_) (fun _=>Zb trivial);rw[wi _ (by omega)];exact Xj (by omega) (by omega) fun y _=>(Zoo _ _).bind fun z _=>Zb trivial
 refine h5.bind fun z _=>Zf (fun _=>Zb trivial) (fun _=>Zf (fun _=>Zb trivial) (fun _=>Zf (fun _=>Zb trivial) (fun _=>?_)))
 exact Zb ⟨n-1,by omega,by dsimp only; rw[wi (i+1) (by omega)]; omega,by dsimp only; rw[wi (i+1) (by omega)]; omega⟩
theorem ZoM (l:List Tapi_Coin) (o:Tapi_OutPoint) (hl:l.length≤1000000000):Tot (Zdk l o) fun r=>(r<0∧∀ c∈l,c.1≠o)∨∃ i:Nat,∃ h:i<l.length,r=(i:Int)∧l[i].1=o:=by
 unfold Zdk;refine XC l (fun n=>∀ i (h:i<l.length),i<n→l[i].1≠o) hl (fun i _ h=>absurd h (by omega)) ?_ ?_
 ·intro i hi hJ
  simp only[Zhq];rw[if_pos (by omega),Zi hi];refine Zf (fun hc=>Zb (.inr ⟨i,hi,rfl,Prod.ext hc.1 hc.2⟩)) (fun hc=>Zb ⟨Zo hi (by omega),fun k hk hk2=>?_⟩);by_cases e:k=i
  ·subst e
   exact fun c=>hc ⟨congrArg Prod.fst c,congrArg Prod.snd c⟩
  ·exact hJ k hk (by omega)
 ·intro hJ
  simp only[Zhq];rw[if_neg (by omega)];refine⟨-1,rfl,.inl ⟨by omega,fun c hc=>?_⟩⟩;obtain⟨i,hi,rfl⟩:=List.getElem_of_mem hc;exact hJ i hi hi
theorem Zop (c:Tapi_Coin) (h:c.2.1.2.length≤1000000):Zbm c=some c:=by
 unfold Zbm;rw[ZrH _ (by omega),Za]
end
section
set_option maxRecDepth 100000
def ScrM (s:List Int):Prop:=∃ j,(1≤j∧j≤6)∧s=[1,1,j,5]
def ZkO (c:Tapi_Coin):Prop:=Byt c.1.1.l∧ScrM c.2.1.2
theorem ScrM.len {s:List Int}(h:ScrM s):s.length=4:=by obtain⟨j,_,rfl⟩:=h; rfl
theorem ScrM.byt {s:List Int}(h:ScrM s):Byt s:=by
 obtain⟨j,hj,rfl⟩:=h;intro x hx;simp at hx
 omega
theorem ZlW (t:Tapi_Tx) (ht:t.2.2.1.length≤1000) (h:Int):Tot (Za0 t h) fun r=>r.length=t.2.2.1.length∧∀ c∈r,c.1.1=idS t∧∃ o∈t.2.2.1,c.2.1=o:=by
 unfold Za0;rw[ZnE,Za];refine ZF (I:=fun(n:Nat) (s:Int×List Tapi_Coin)=>s.1+(n:Int)=(t.2.2.1.length:Int)∧(s.2.length:Int)=s.1∧∀ c∈s.2,c.1.1=idS t∧∃ o∈t.2.2.1,c.2.1=o) (n:=t.2.2.1.length) ?_ ⟨by simp,by simp,by simp⟩;rintro n ⟨i,acc⟩ ⟨h1,h2,h3⟩
 dsimp only at h1 h2 h3;simp only[ZhH];refine Zf (fun hi=>?_) (fun hi=>?_)
 ·refine Xj (by omega) hi fun o ho=>?_
  rw[Zmm,Za];refine Zz (by omega) (Zb ⟨n-1,by omega,?_,?_,?_⟩)
  ·dsimp only
   rw[wi _ (by omega)];omega
  ·dsimp only
   rw[wi _ (by omega)];simp
   omega
  ·intro c hc
   rcases List.mem_append.1 hc with hc | hc
   ·exact h3 c hc
   ·obtain rfl:=List.mem_singleton.1 hc
    exact⟨rfl,o,ho,rfl⟩
 ·exact Tot.out (Zb ⟨by omega,h3⟩)
theorem ZwM {l:List Tapi_Coin}{c:Tapi_Coin}(hl:l.length≤1000000) (hs:c.2.1.2.length≤1000000):Tot (Zcd l c) fun r=>r.length=l.length+1∧∀ x∈r,x∈l∨x=c:=by
 unfold Zcd;refine ZF (I:=fun(n:Nat) (s:Int×List Tapi_Coin)=>s.1+(n:Int)=(l.length:Int)∧0≤s.1∧(s.2.length:Int)≤s.1∧∀ x∈s.2,x∈l) (n:=l.length) ?_ ⟨by simp,by simp,by simp,by simp⟩;rintro n ⟨i,acc⟩ ⟨h1,h2,h3,h4⟩
 dsimp only at h1 h2 h3 h4;simp only[Zjv,Zdx];refine Zf (fun hi=>?_) (fun hi=>?_)
 ·refine Xj h2 hi fun x hx=>?_
  refine(Zoo _ _).bind fun y _=>Zf (fun _=>?_) (fun _=>?_)
  ·refine Zz (by omega) (Zb ⟨n-1,by omega,?_,?_,?_,?_⟩)
   ·dsimp only
    rw[wi _ (by omega)];omega
   ·dsimp only
    rw[wi _ (by omega)];omega
   ·dsimp only
    rw[wi _ (by omega)];simp
    omega
   ·intro z hz
    rcases List.mem_append.1 hz with hz | hz
    ·exact h4 z hz
    ·obtain rfl:=List.mem_singleton.1 hz
     exact hx
  ·refine Zb ⟨n-1,by omega,?_,?_,?_,h4⟩
   ·dsimp only
    rw[wi _ (by omega)];omega
   ·dsimp only
    rw[wi _ (by omega)];omega
   ·dsimp only
    rw[wi _ (by omega)];omega
 ·refine Tot.out ?_
  unfold Zju;rw[Zop c hs,Za];refine Zz (by omega) (Zz (by omega) (Zz (by simp; omega) (Zb ⟨?_,?_⟩)))
  ·simp
   omega
  ·intro x hx
   simp only[List.append_assoc,List.mem_append,List.mem_singleton] at hx;rcases hx with hx | hx | hx
   ·exact .inl (h4 x hx)
   ·exact .inr hx
   ·exact .inl (List.mem_of_mem_drop hx)
theorem Zvg {l:List Tapi_Coin}{t:Tapi_Tx}(hl:l.length≤200000) (ht:t.2.2.1.length≤1000) (hs:∀ o∈t.2.2.1,o.2.length≤1000000) (h:Int):Tot (Zhr l t h) fun r=>r.2=0→r.1.length=l.length+t.2.2.1.length∧∀ c∈r.1,c∈l∨c.1.1=idS t∧∃ o∈t.2.2.1,c.2.1=o:=by
 unfold Zhr;refine(ZlW t ht h).bind fun y hy=>?_
 refine XC y (fun _=>True) (by omega) trivial ?_ ?_
 ·intro i hi _
  simp only[Zih];rw[if_pos (by omega),Yk hi,ZaV hi];refine(ZoM l _ (by omega)).bind fun z _=>Zf (fun _=>Zb (by intro h; simp at h)) (fun _=>Zb ⟨Zo hi (by omega),trivial⟩)
 ·intro _
  simp only[Zih];rw[if_neg (by omega)];refine Tot.inr ?_;unfold Zf8;refine(ZlW t ht h).bind fun z hz=>?_
  refine ZF (I:=fun(n:Nat) (s:List Tapi_Coin×Int)=>s.2+(n:Int)=(z.length:Int)∧0≤s.2∧(s.1.length:Int)=l.length+s.2∧∀ c∈s.1,c∈l∨c∈z) (n:=z.length) ?_ ⟨by simp,by simp,by simp,fun c hc=>.inl hc⟩;rintro n ⟨acc,i⟩ ⟨h1,h2,h3,h4⟩
  dsimp only at h1 h2 h3 h4;simp only[Zkl];refine Zf (fun hi=>?_) (fun hi=>?_)
  ·refine Xe h2 hi fun j hj hj2=>Zer hj2 fun x hx=>?_
   have hxz:=List.mem_of_getElem? hx;obtain⟨_,o,ho,hxo⟩:=hz.2 x hxz;refine(ZwM (l:=acc) (c:=x) (by omega) (by rw[hxo]; exact hs o ho)).bind fun r hr=>Zb ⟨n-1,by omega,?_,?_,?_,?_⟩
   ·dsimp only
    rw[wi _ (by omega)];omega
   ·dsimp only
    rw[wi _ (by omega)];omega
   ·dsimp only
    rw[wi _ (by omega)];omega
   ·intro c hc
    rcases hr.2 c hc with hc | rfl
    ·exact h4 c hc
    ·exact .inr hxz
  ·refine Tot.out (Zb fun _=>⟨by dsimp only; omega,fun c hc=>?_⟩)
   rcases h4 c hc with hc | hc
   ·exact .inl hc
   ·exact .inr (hz.2 c hc)
theorem Zvh {p:Tapi_Params}{l:List Tapi_Coin}{t:Tapi_Tx}(hl:l.length≤1000000) (hs:∀ c∈l,c.2.1.2.length≤1000000) (ht:t.2.1.length≤1000) (h:Int):Tot (Zff p l t h) fun r=>r.2=0→r.1.length=t.2.1.length∧(∀ c∈r.1,c∈l)∧∀ j (h1:j<r.1.length) (h2:j<t.2.1.length),r.1[j].1=t.2.1[j].1:=by
 unfold Zff;refine ZF (I:=fun(n:Nat) (s:Int×List Tapi_Coin)=>s.1+(n:Int)=(t.2.1.length:Int)∧(s.2.length:Int)=s.1∧(∀ c∈s.2,c∈l)∧∀ j (h1:j<s.2.length) (h2:j<t.2.1.length),s.2[j].1=t.2.1[j].1) (n:=t.2.1.length) ?_ ⟨by simp,by simp,by simp,fun j h1=>absurd h1 (by simp)⟩;rintro n ⟨i,acc⟩ ⟨h1,h2,h3,h4⟩
 dsimp only at h1 h2 h3 h4;simp only[Zi3];refine Zf (fun hi=>?_) (fun hi=>?_)
 ·obtain⟨k,rfl⟩:=Int.eq_ofNat_of_zero_le (show 0≤i by omega)
  rw[Zi (by omega)];refine(ZoM l _ (by omega)).bind fun y hy=>Zf (fun _=>Zb (by intro h; simp at h)) (fun hneg=>?_)
  rcases hy with ⟨hy,_⟩ | ⟨q,hq,rfl,hq2⟩
  ·exact absurd hy hneg
  rw[Zi hq,Zop _ (hs _ (List.getElem_mem hq)),Za];refine Zz (by omega) (Zb ⟨n-1,by omega,?_,?_,?_,?_⟩)
  ·dsimp only
   rw[wi _ (by omega)];omega
  ·dsimp only
   rw[wi _ (by omega)];simp
   omega
  ·intro c hc
   rcases List.mem_append.1 hc with hc | hc
   ·exact h3 c hc
   ·obtain rfl:=List.mem_singleton.1 hc
    exact List.getElem_mem hq
  ·intro j h1' h2'
   dsimp only at h1' ⊢;by_cases hj:j<acc.length
   ·rw[List.getElem_append_left hj]
    exact h4 j hj h2'
   ·obtain rfl:j=acc.length:=by simp at h1'; omega
    obtain rfl:acc.length=k:=by omega
    simpa using hq2
 ·refine Tot.out ?_
  unfold Zez;refine XC acc (fun _=>True) (by omega) trivial ?_ ?_
  ·intro k hk _
   simp only[ZgK];rw[if_pos (by omega),Yk hk,ZaV hk];exact Zf (fun _=>Zb (by intro h; simp at h)) (fun _=>Zb ⟨Zo hk (by omega),trivial⟩)
  ·intro _
   simp only[ZgK];rw[if_neg (by omega)];exact⟨(acc,0),rfl,fun _=>⟨by dsimp only; omega,h3,h4⟩⟩
theorem ZtY {l:List Tapi_Coin}{i:Nat}(hi:i<l.length) (hl:l.length≤1000000):Zdw l (i:Int)=some (l.take i++l.drop (i+1)):=by
 unfold Zdw;rw[Zj (by omega),Zj (by simp; omega),wi _ (by omega),Zj (by omega),Zj (by simp; omega)];rw[show((i:Int)+1).toNat=i+1 by omega,Int.toNat_natCast]
theorem Zqq (l:List Tapi_Coin) (hl:l.length≤1000000000):Tot (Zd0 l) fun _=>True:=by
 unfold Zd0;refine ZF (I:=fun(n:Nat) (s:Int×Int)=>s.2+(n:Int)=(l.length:Int)∧0≤s.2) (n:=l.length) ?_ ⟨by simp,by simp⟩;rintro n ⟨s,i⟩ ⟨h1,h2⟩
 dsimp only at h1 h2;simp only[Zi5];refine Zf (fun hi=>?_) (fun hi=>Tot.out (Zb trivial));refine Xj h2 hi fun x _=>Zb ⟨n-1,by omega,?_,?_⟩
 ·dsimp only
  rw[wi (i+1) (by omega)];omega
 ·dsimp only
  rw[wi (i+1) (by omega)];omega
theorem Zvi {p:Tapi_Params}(hp:PrmOk p) (l:Tapi_Ledger) (hl:l.2.2.length≤1000000000) (b:Tapi_Block):Tot (Zfe p l b) fun r=>r=0→ZmY b:=by
 unfold Zfe;refine(ZeU hp).bind fun y _=>?_
 have h5:Tot (if ¬ (y=true) then some false else(ZdZ l).bind fun y2=>some (!(y2))) fun _=>True :=
  Zf (fun _=>Zb trivial) (fun _=>(Zvf l hl).bind fun z _=>Zb trivial)
 refine h5.bind fun z _=>Zf (fun _=>Zb (by simp)) (fun _=>Zf (fun _=>Zb (by simp)) (fun _=>Zf (fun _=>Zb (by simp)) (fun _=>?_)))
 refine(Zsg b).bind fun e he=>Zf (fun hne=>Zb (by intro h; exact absurd h hne)) (fun h0=>?_)
 have hB:=he (Decidable.byContradiction h0);have hlen:0<b.2.length:=List.length_pos_iff.2 hB.ne;refine Zer hlen fun x hx=>?_
 have hx0:b.2[0]=x:=by rw[List.getElem?_eq_getElem hlen] at hx; exact Option.some.inj hx
 have hcb:=hB.cb 0 hlen;rw[hx0] at hcb;have hcb:cbS x=true:=by simpa using hcb
 have hin:x.2.1.length=1:=by
  unfold cbS at hcb;split at hcb
  ·rename_i h; rw[h]; rfl
  ·cases hcb
 refine Zer (by omega) fun q _=>Zf (fun _=>Zb (by simp)) (fun _=>?_)
 refine(Zqp x (by omega) _).bind fun r _=>Zf (fun _=>Zb (by simp)) (fun _=>Zb fun _=>hB)
end
section
set_option maxRecDepth 100000
def dg8 (a:Arr 8):Prop:=∀ i,i<8→M64 (a.at i)
theorem dg8_zero:dg8 (zA 8):=by
 intro i hi;have:i=0∨i=1∨i=2∨i=3∨i=4∨i=5∨i=6∨i=7:=by omega
 rcases this with rfl | rfl | rfl | rfl | rfl | rfl | rfl | rfl <;> exact⟨by decide,by decide⟩
theorem ZsQ {a:Arr 8}(h:dg8 a){j:Nat}(hj:j<8){x:Int}(hx:M64 x):dg8 (a.put j x):=by
 intro i hi;by_cases e:j=i
 ·subst e
  rw[Arr.at_put _ hi];exact hx
 ·rw[Arr.at_put_ne _ e]
  exact h i hi
theorem ZsR {l:List Int}(hl:l.length=4) (h:∀ x∈l,M64 x):dg ((zA 4).over l):=by
 intro i hi
 have e:(zA 4).over l=⟨l,hl⟩:=by
  unfold Arr.over;have h4:(zA 4).l.length=4:=(zA 4).hl
  congr 1
  rw[List.take_of_length_le (by omega),List.drop_of_length_le (by omega),List.append_nil]
 rw[e];have:(⟨l,hl⟩:Arr 4).at i=l[i]'(by omega):=by simp[Arr.at,hl,hi]
 rw[this];exact h _ (List.getElem_mem _)
theorem ZxY {a:Arr 8}(h:dg8 a):∀ x∈a.l,M64 x:=by
 intro x hx;obtain⟨i,hi,rfl⟩:=List.getElem_of_mem hx;have hl:=a.hl;have:=h i (by omega);rw[Arr.at,List.getD_eq_getElem?_getD,List.getElem?_eq_getElem hi] at this;exact this
theorem ZxZ {a b:Arr 4}(ha:dg a) (hb:dg b):Tot (Zhs a b) fun r=>dg r.1∧dg r.2:=by
 unfold Zhs;refine ZF (I:=fun(n:Nat) (s:Int×Arr 8)=>s.1+(n:Int)=4∧0≤s.1∧dg8 s.2) (n:=4) ?_ ⟨by simp,by simp,dg8_zero⟩;rintro n ⟨i,w⟩ ⟨h1,h2,h3⟩
 dsimp only at h1 h2 h3;simp only[Zkn];refine Zf (fun h=>?_) (fun h=>?_)
 ·refine ZF (I:=fun(k:Nat) (s:Int×Int×Arr 8)=>s.2.1+(k:Int)=4∧0≤s.2.1∧M64 s.1∧dg8 s.2.2) (n:=4) ?_ ⟨by simp,by simp,⟨by simp,by simp⟩,h3⟩
  rintro k ⟨c,j,w⟩ ⟨k1,k2,k3,k4⟩
  dsimp only at k1 k2 k3 k4;simp only[Zkm];refine Zf (fun hj=>?_) (fun hj=>?_)
  ·refine Xe h2 h fun p hp hp4=>Xe k2 hj fun q hq hq4=>?_
   refine(show Tot (XZ (a.at p) (b.at q)) fun r=>M64 r.1∧M64 r.2 from Zb ⟨Zh6 _,Zh6 _⟩).bind fun y hy=>?_
   rw[wi (i+j) (by omega)];refine Xe (by omega) (by omega) fun z hz hz8=>?_
   refine(ZnG (k4 z hz8) hy.2 (by omega)).bind fun u hu=>?_
   refine(ZnG hu.1 k3 (by omega)).bind fun v hv=>?_
   refine Zb ⟨k-1,by omega,?_,?_,Zh6 _,ZsQ k4 hz8 hv.1⟩
   ·dsimp only
    rw[wi (j+1) (by omega)];omega
   ·dsimp only
    rw[wi (j+1) (by omega)];omega
  ·refine Tot.out ?_
   unfold Zf9;rw[wi (i+4) (by omega)];refine Xe (by omega) (by omega) fun z hz hz8=>Zb ⟨n-1,by omega,?_,?_,ZsQ k4 hz8 k3⟩
   ·dsimp only
    rw[wi (i+1) (by omega)];omega
   ·dsimp only
    rw[wi (i+1) (by omega)];omega
 ·refine Tot.out (Zb ?_)
  have hl:=w.hl;have hm:=ZxY h3;exact⟨ZsR (by rw[List.length_drop,hl]) fun x hx=>hm x (List.mem_of_mem_drop hx),ZsR (by rw[List.length_take,hl]; rfl) fun x hx=>hm x (List.mem_of_mem_take hx)⟩
theorem Zvj {x y c:Int}(hx:M64 x) (hy:M64 y) (hc:0≤c∧c≤1):Tot (ZaR x y c) fun r=>M64 r.1∧0≤r.2∧r.2≤1:=by
 unfold ZaR;refine Zz (by omega) (Zb ⟨by simp only; omega,?_⟩);simp only;split <;> omega
theorem Zx0 {a b:Arr 4}(ha:dg a) (hb:dg b):Tot (Zhp a b) fun r=>dg r.1:=by
 unfold Zhp;refine ZF (I:=fun(n:Nat) (s:Int×Int×Arr 4)=>s.2.1+(n:Int)=4∧0≤s.2.1∧(0≤s.1∧s.1≤1)∧dg s.2.2) (n:=4) ?_ ⟨by simp,by simp,by simp,dg_zero⟩;rintro n ⟨c,i,r⟩ ⟨h1,h2,h3,h4⟩
 dsimp only at h1 h2 h3 h4;simp only[Zkh];refine Zf (fun h=>?_) (fun h=>?_)
 ·refine Xe h2 h fun j hj hj4=>?_
  refine(Zvj (ha j hj4) (hb j hj4) h3).bind fun y hy=>Zb ⟨n-1,by omega,?_,?_,hy.2,Zgb h4 hj4 hy.1⟩
  ·dsimp only
   rw[wi _ (by omega)];omega
  ·dsimp only
   rw[wi _ (by omega)];omega
 ·exact Tot.out (Zb h4)
theorem Zx1 {a b c:Arr 4}(ha:dg a) (hb:dg b) (hc:dg c):Tot (Zht a b c) fun r=>dg r.1:=by
 unfold Zht;refine(ZkY _ _).bind fun y _=>Zf (fun _=>Zb dg_zero) (fun _=>?_)
 refine ZF (I:=fun(n:Nat) (s:Int×Arr 4×Arr 4)=>s.1+1=(n:Int)∧s.1≤255∧dg s.2.1∧dg s.2.2) (n:=256) ?_ ⟨by simp,by simp,dg_zero,ha⟩;rintro n ⟨i,q,r⟩ ⟨h1,h2,h3,h4⟩
 dsimp only at h1 h2 h3 h4;simp only[Zkp];refine Zf (fun h=>?_) (fun h=>Tot.out (Zb h3));refine(ZkX r (by omega) (by omega)).bind fun o _=>(ZsN h4 h4).bind fun s hs=>(ZkX b h (by omega)).bind fun t _=>?_
 have key:∀ p,dg p→Tot (Zeo o c i q p) (Nx (fun(n:Nat) (s:Int×Arr 4×Arr 4)=>s.1+1=(n:Int)∧s.1≤255∧dg s.2.1∧dg s.2.2) (fun r=>dg r.1) n):=by
  intro p hp;unfold Zeo
  have h5:Tot (if o=true then some false else(Xk p c).bind fun y45=>some (decide (0≤y45))) fun _=>True :=
   Zf (fun _=>Zb trivial) (fun _=>(ZkY _ _).bind fun z _=>Zb trivial)
  have nxt:∀ q' p',dg q'→dg p'→Tot (Zga i q' p') (Nx (fun(n:Nat) (s:Int×Arr 4×Arr 4)=>s.1+1=(n:Int)∧s.1≤255∧dg s.2.1∧dg s.2.2) (fun r=>dg r.1) n):=by
   intro q' p' hq hp';refine Zb ⟨n-1,by omega,?_,?_,hq,hp'⟩
   ·dsimp only
    rw[wi (i-1) (by omega)];omega
   ·dsimp only
    rw[wi (i-1) (by omega)];omega
  refine h5.bind fun z _=>Zf (fun _=>?_) (fun _=>nxt q p h3 hp)
  refine(Zx0 hp hc).bind fun v hv=>?_
  rw[ZfV h,Zd6 h,wi (i / 64) (by omega)];exact Xe (by omega) (by omega) fun j hj hj4=>Zz (by omega) (nxt _ _ (Zgb h3 hj4 (Zjh _ _ _)) hv)
 exact Zf (fun _=>key _ (Zgb hs (by omega) (Zjh _ _ _))) (fun _=>key _ hs)
end
section
set_option maxRecDepth 100000
def sm (a:Arr 4) (k:Nat):Prop:=0≤a.at 0∧a.at 0<2 ^ k∧a.at 1=0∧a.at 2=0∧a.at 3=0
theorem ZsS (k:Nat):sm (zA 4) k:=⟨by decide,Int.pow_pos (by decide),by decide,by decide,by decide⟩
theorem ZsT {a:Arr 4}{k m:Nat}(h:sm a k) (hk:k≤m):sm a m:=by
 obtain⟨h1,h2,h3⟩:=h;exact⟨h1,by have:(2:Int) ^ k≤2 ^ m:=(by exact_mod_cast Nat.pow_le_pow_right (n:=2) (by decide) hk); omega,h3⟩
theorem Zqr (x:Int):IntKind.u64.wrap x=x % 18446744073709551616:=by
 have:=Zh6 x;unfold IntKind.wrap IntKind.bits;simp
theorem ZzL {x:Int}{k:Nat}(hk:k≤16) (h0:0≤x) (h1:x<2 ^ k):0≤bits .or .u64 x (IntKind.u64.wrap (1 * 2 ^ k))∧bits .or .u64 x (IntKind.u64.wrap (1 * 2 ^ k))<2 ^ (k+1):=by
 obtain⟨m,rfl⟩:=Int.eq_ofNat_of_zero_le h0;have hm:m<2 ^ k:=by exact_mod_cast h1
 have hp:(2:Nat) ^ k≤65536:=Nat.pow_le_pow_right (by decide) hk;have hp1:(2:Nat) ^ (k+1)≤131072:=Nat.pow_le_pow_right (n:=2) (by decide) (show k+1≤17 by omega)
 have e0:IntKind.u64.wrap (1 * 2 ^ k)=((2 ^ k:Nat):Int):=by
  rw[Int.one_mul,Zqr,show(2:Int) ^ k=((2 ^ k:Nat):Int) from(Int.natCast_pow 2 k).symm];generalize (2:Nat) ^ k=z at hp ⊢;omega
 rw[e0]
 have e1:bits .or .u64 (m:Int) ((2 ^ k:Nat):Int)=((m ||| 2 ^ k:Nat):Int):=by
  show IntKind.u64.wrap ((BitVec.ofInt 64 (m:Int) ||| BitVec.ofInt 64 ((2 ^ k:Nat):Int)).toNat:Int)=_
  have q1:(BitVec.ofInt 64 (m:Int)).toNat=m:=by
   simp only[BitVec.toNat_ofInt];omega
  have q2:(BitVec.ofInt 64 ((2 ^ k:Nat):Int)).toNat=2 ^ k:=by
   simp only[BitVec.toNat_ofInt];generalize (2:Nat) ^ k=z at hp ⊢;omega
  rw[BitVec.toNat_or,q1,q2,Zqr];have:m ||| 2 ^ k<2 ^ (k+1):=Nat.or_lt_two_pow (by rw[Nat.pow_succ]; omega) (by rw[Nat.pow_succ]; have:=Nat.two_pow_pos k; omega)
  generalize m ||| 2 ^ k=z at this ⊢
  omega
 rw[e1];have:m ||| 2 ^ k<2 ^ (k+1):=Nat.or_lt_two_pow (by rw[Nat.pow_succ]; omega) (by rw[Nat.pow_succ]; have:=Nat.two_pow_pos k; omega)
 exact⟨by omega,by exact_mod_cast this⟩
theorem Zvk {a:Arr 4}(ha:dg a){n:Int}(hn:240≤n) (hn2:n≤100000):Tot (Zbh a n) fun r=>dg r∧sm r 16:=by
 unfold Zbh;refine Zf (fun _=>by omega) (fun h=>Zf (fun _=>Zb ⟨dg_zero,ZsS _⟩) (fun h'=>?_));refine ZF (I:=fun(k:Nat) (s:Int×Arr 4)=>s.1+(k:Int)=256-n∧0≤s.1∧dg s.2∧sm s.2 s.1.toNat) (n:=(256-n).toNat) ?_ ⟨by simp; omega,by simp,dg_zero,ZsS _⟩;rintro k ⟨i,r⟩ ⟨h1,h2,h3,h4⟩
 dsimp only at h1 h2 h3 h4;simp only[Zie,Zel];rw[wi (i+n) (by omega)];refine Zf (fun h=>?_) (fun h=>?_)
 ·have e1:(i+1).toNat=i.toNat+1:=by omega
  refine(ZkX a (by omega) h).bind fun y _=>Zf (fun _=>?_) (fun _=>?_)
  ·rw[ZfV h2,Zd6 h2,wi (i / 64) (by omega)]
   refine Xe (by omega) (by omega) fun j hj hj4=>Zz (by omega) (Zb ⟨k-1,by omega,?_,?_,Zgb h3 hj4 (Zjh _ _ _),?_⟩)
   ·dsimp only
    rw[wi _ (by omega)];omega
   ·dsimp only
    rw[wi _ (by omega)];omega
   ·dsimp only
    rw[wi _ (by omega),e1];obtain rfl:j=0:=by omega
    have e2:min (i % 64).toNat 64=i.toNat:=by omega
    rw[e2];obtain⟨g1,g2,g3,g4,g5⟩:=h4;have:=ZzL (k:=i.toNat) (by omega) g1 g2;refine⟨?_,?_,?_,?_,?_⟩
    ·rw[Arr.at_put _ (by omega)]
     exact this.1
    ·rw[Arr.at_put _ (by omega)]
     exact this.2
    ·rw[Arr.at_put_ne _ (by omega)]
     exact g3
    ·rw[Arr.at_put_ne _ (by omega)]
     exact g4
    ·rw[Arr.at_put_ne _ (by omega)]
     exact g5
  ·refine Zb ⟨k-1,by omega,?_,?_,h3,?_⟩
   ·dsimp only
    rw[wi _ (by omega)];omega
   ·dsimp only
    rw[wi _ (by omega)];omega
   ·dsimp only
    rw[wi _ (by omega),e1];exact ZsT h4 (by omega)
 ·exact Tot.out (Zb ⟨h3,ZsT h4 (by omega)⟩)
theorem Zvl {a:Arr 4}(h:sm a 16){n:Int}(h0:16≤n) (h1:n<256):Tot (Zbg a n) fun r=>r=false:=by
 unfold Zbg;rw[ZfV (by omega),Zd6 (by omega),wi (n / 64) (by omega)];refine Xe (by omega) (by omega) fun j hj hj4=>Zz (by omega) (Zb ?_)
 have e:(a.at j).fdiv (2 ^ (min (n % 64).toNat 64))=0:=by
  obtain⟨g1,g2,g3,g4,g5⟩:=h;have hpos:(0:Int)<2 ^ (min (n % 64).toNat 64):=Int.pow_pos (by decide);have:j=0∨j=1∨j=2∨j=3:=by omega
  rcases this with rfl | rfl | rfl | rfl
  ·rw[Int.fdiv_eq_ediv_of_nonneg _ (by omega)]
   refine Int.ediv_eq_zero_of_lt g1 (Int.lt_of_lt_of_le g2 ?_)
   exact_mod_cast Nat.pow_le_pow_right (n:=2) (by decide) (show 16≤min (n % 64).toNat 64 by omega)
  ·rw[g3]; simp
  ·rw[g4]; simp
  ·rw[g5]; simp
 rw[e];decide
theorem Zvm {a:Arr 4}(h:sm a 16):Tot (Zcb a) fun r=>r≤16:=by
 unfold Zcb;refine ZF (I:=fun(n:Nat) (s:Int)=>s+1=(n:Int)∧s≤255) (n:=256) ?_ ⟨by omega,by omega⟩;rintro n s ⟨hs,hs2⟩
 simp only[Zif];refine Zf (fun h0=>?_) (fun h0=>Tot.out (Zb (by omega)));by_cases h16:16≤s
 ·refine(Zvl h h16 (by omega)).bind fun y hy=>Zf (fun hy2=>?_) (fun _=>?_)
  ·rw[hy] at hy2
   cases hy2
  ·exact Zb ⟨n-1,by omega,by rw[wi _ (by omega)]; omega,by rw[wi _ (by omega)]; omega⟩
 ·refine(ZkX a h0 (by omega)).bind fun y hy=>Zf (fun hy2=>?_) (fun _=>?_)
  ·exact Zb (show IntKind.i64.wrap (s+1)≤16 by rw[wi (s+1) (by omega)]; omega)
  ·exact Zb ⟨n-1,by omega,by rw[wi _ (by omega)]; omega,by rw[wi _ (by omega)]; omega⟩
theorem Zsh {a:Arr 4}(ha:dg a):Tot (Zdz a) M32:=by
 unfold Zdz;refine(Zlt a).bind fun y _=>Zf (fun _=>Zb ⟨by omega,by omega⟩) (fun _=>?_)
 refine ZF (I:=fun(n:Nat) (s:Int)=>s+(n:Int)=33∧1≤s) (n:=32) ?_ ⟨by omega,by omega⟩;rintro n s ⟨h1,h2⟩
 have nxt:1≤n→Nx (fun(n:Nat) (s:Int)=>s+(n:Int)=33∧1≤s) M32 n (.inl (IntKind.i64.wrap (s+1))):=fun hn =>
  ⟨n-1,by omega,by rw[wi _ (by omega)]; omega,by rw[wi _ (by omega)]; omega⟩
 have key:∀ r,1≤n∨sm r 16→Tot (Zbx s r) (Nx (fun(n:Nat) (s:Int)=>s+(n:Int)=33∧1≤s) M32 n):=by
  intro r hr;unfold Zbx;rcases hr with hr | hr
  ·exact(ZsM r).bind fun z _=>Zf (fun _=>Zb (Zvc _ _ _)) (fun _=>Zb (nxt hr))
  ·exact(Zvm hr).bind fun z hz=>Zf (fun _=>Zb (Zvc _ _ _)) (fun h=>absurd (show z≤23 by omega) h)
 simp only[ZhJ];refine Zf (fun h3=>?_) (fun h3=>?_)
 ·rw[wi (3-s) (by omega),wi (8 * (3-s)) (by omega)]
  refine(ZsO ha (by omega)).bind fun u hu=>(Zn6 hu _).bind fun v hv=>(ZkY _ _).bind fun w _=>Zf (fun _=>Zb (nxt (by omega))) (fun _=>key u (.inl (by omega)))
 ·rw[wi (s-3) (by omega),wi (8 * (s-3)) (by omega)]
  by_cases h33:s=33
  ·exact(Zvk ha (by omega) (by omega)).bind fun u hu=>key u (.inr hu.2)
  ·exact(Zn6 ha _).bind fun u hu=>key u (.inl (by omega))
theorem ZtZ {p:Tapi_Params}(hp:PrmOk p){b:Int}(hb:M32 b) (x y:Int):Tot (Zep p b x y) fun r=>M32 r.1:=by
 unfold Zep;refine(ZeU hp).bind fun v _=>Zf (fun _=>Zb ⟨by simp,by simp⟩) (fun _=>?_)
 refine(ZmX hb).bind fun t ht=>Zf (fun _=>Zb ⟨by simp,by simp⟩) (fun _=>?_)
 have k3:∀ a,dg a→Tot (Zd1 a) fun r=>M32 r.1:=fun a ha=>by
  unfold Zd1;exact(Zsh ha).bind fun z hz=>Zb hz
 have k2:∀ a,dg a→Tot (Zd2 a) fun r=>M32 r.1:=fun a ha=>by
  unfold Zd2;refine(Zlt a).bind fun z _=>Zf (fun _=>?_) (fun _=>k3 a ha)
  rw[ZmW,Za];exact k3 _ (Zn5 ⟨by omega,by omega⟩)
 have k1:∀ q,M64 q→Tot (Zd3 p t q) fun r=>M32 r.1:=fun q hq=>by
  unfold Zd3;rw[ZmW,Za]
  have hd:∀ c d e:Int,M64 c→M64 d→M64 e→M64 (if c<(if q<d then e else q) then c else(if q<d then e else q)):=by
   intro c d e hc hd he
   have h1:M64 (if q<d then e else q):=by
    split
    ·exact he
    ·exact hq
   generalize (if q<d then e else q)=w at h1 ⊢;split
   ·exact hc
   ·exact h1
  refine(ZxZ ht (Zn5 (hd _ _ _ (Zh6 _) (Zh6 _) (Zh6 _)))).bind fun m hm=>?_
  rw[ZmW,Za];refine(Zx1 hm.1 hm.2 (Zn5 (Zh6 _))).bind fun z hz=>?_
  have h5:Tot (if ¬ (z.2.2=true) then some false else(Xk z.1 p.2.1).bind fun y8=>some (decide (0<y8))) fun _=>True :=
   Zf (fun _=>Zb trivial) (fun _=>(ZkY _ _).bind fun _ _=>Zb trivial)
  exact h5.bind fun _ _=>Zf (fun _=>k2 _ hp.lim) (fun _=>k2 _ hz)
 exact Zf (fun _=>k1 _ (Zh6 _)) (fun _=>k1 _ ⟨by omega,by omega⟩)
theorem Zpk {p:Tapi_Params}(hp:PrmOk p){c:Tapi_Context}(hb:M32 c.2.2.1):Tot (Zd4 p c) fun r=>M32 r.1:=by
 unfold Zd4;refine(ZeU hp).bind fun v _=>Zf (fun _=>Zb ⟨by simp,by simp⟩) (fun h=>?_)
 have hw:=hp.win;refine Zz (by omega) (Zf (fun _=>Zb hb) (fun _=>?_));have hl:0<c.2.2.2.2.length∧c.2.2.2.2.length≤11:=by omega
 rw[wi _ (by omega)];exact Xj (by omega) (by omega) fun x _=>(ZtZ hp hb _ _).bind fun z hz=>Zb hz
theorem Zpl (l:List Int) (hl:l.length≤1000):Tot (ZcX l) fun _=>True:=by
 unfold ZcX;refine ZF (I:=fun(n:Nat) (s:Int×List Int)=>s.1+(n:Int)=(l.length:Int)∧0≤s.1∧(s.2.length:Int)=s.1) (n:=l.length) ?_ ⟨by simp,by simp,by simp⟩;rintro n ⟨i,acc⟩ ⟨h1,h2,h3⟩
 dsimp only at h1 h2 h3;simp only[Ziq];refine Zf (fun h=>?_) (fun h=>?_)
 ·refine Xj h2 h fun x _=>?_
  refine ZF (I:=fun(k:Nat) (s:Int)=>s+(k:Int)=(acc.length:Int)∧0≤s) (n:=acc.length) ?_ ⟨by omega,by omega⟩;rintro k s ⟨k1,k2⟩
  simp only[Zip]
  have h5:Tot (if s<(acc.length:Int) then(inA (acc.length) s).bind fun j64=>(acc[j64]?).bind fun x65=>some (decide (x65≤x)) else some false) fun _=>True :=
   Zf (fun hs=>Xe k2 hs fun j _ hj=>Zer hj fun _ _=>Zb trivial) (fun _=>Zb trivial)
  refine h5.bind fun z _=>Zf (fun hz=>?_) (fun hz=>?_)
  ·exact Zb ⟨k-1,by omega,by rw[wi _ (by omega)]; omega,by rw[wi _ (by omega)]; omega⟩
  ·refine Tot.out ?_
   unfold ZdW;refine Zz (by omega) (Zz (by omega) (Zz ?_ (Zz ?_ (Zb ⟨n-1,by omega,?_,?_,?_⟩))))
   ·simp only[List.length_take,List.length_drop]
    omega
   ·simp only[List.length_take,List.length_drop]
    omega
   ·dsimp only
    rw[wi _ (by omega)];omega
   ·dsimp only
    rw[wi _ (by omega)];omega
   ·dsimp only
    rw[wi _ (by omega)];simp only[List.length_append,List.length_take,List.length_drop,List.length_cons,List.length_nil];omega
 ·refine Tot.out ?_
  unfold Zio;refine Zf (fun _=>Zb trivial) (fun _=>?_);rw[ZfV (by omega),wi _ (by omega)];exact Xe (by omega) (by omega) fun j _ hj=>Zer hj fun _ _=>Zb trivial
theorem ZwN {p:Tapi_Params}(hp:PrmOk p){c:Tapi_Context}(hb:M32 c.2.2.1) (ht:c.2.2.2.2.length≤1000) (r:Arr 32) (y:Int):Tot (Zgu p c r y) fun h=>M32 h.2.2.2.2.1:=by
 unfold Zgu;refine(Zpk hp hb).bind fun b hb=>(Zpl _ ht).bind fun m _=>?_
 refine ZF (I:=fun(n:Nat) (s:Int)=>s+(n:Int)=20000∧0≤s) (n:=20000) ?_ ⟨by omega,by omega⟩;rintro n s ⟨h1,h2⟩
 simp only[Zjw];refine Zf (fun h=>?_) (fun h=>Tot.out (Zb hb));rw[ZiL,Za];refine(Zqn _ hb).bind fun z _=>Zf (fun _=>Zb hb) (fun _=>Zb ⟨n-1,by omega,?_,?_⟩)
 ·rw[ZmT]
  omega
 ·rw[ZmT]
  omega
end
section
set_option maxRecDepth 100000
def ZrO (w:List (List Int)):Prop:=∃ k,(1≤k∧k≤6)∧w=[[k]]
theorem Zt0 {a:Int}(h0:0≤a):∃ j,Zbc a=some [1,1,j,5]∧1≤j∧j≤6:=by
 unfold Zbc;rw[Zd6 h0,Zbz];exact⟨_,rfl,by omega,by omega⟩
theorem ZlX {a:Int}(h0:0≤a):Tot (Zbc a) ScrM:=by
 obtain⟨j,h,hj⟩:=Zt0 h0;exact⟨_,h,j,hj,rfl⟩
theorem ZwO {s:List Int}{w:List (List Int)}(hs:ScrM s) (hw:ZrO w) (e:Tapi_Env):Tot (Za1 s w e) fun _=>True:=by
 obtain⟨j,hj,rfl⟩:=hs;obtain⟨k,hk,rfl⟩:=hw;unfold Za1;rw[if_pos ⟨j,k,hj,hk,rfl,rfl⟩];exact Zb trivial
theorem ZrP (o:Tapi_Output):(Zhc o).length≤17+o.2.length:=by
 have:=ZkM o.2;unfold Zhc;rw[List.length_append,ZeT];omega
theorem Zt1 (b:ByteArray) (hb:b.size≤1000){l:List Int}(hl:l.length≤1000000):Tot (ZaJ b l) fun _=>True:=by
 unfold ZaJ
 have e:(Zle b).length≤1000:=by
  unfold Zle;rw[List.length_map,Array.length_toList];exact hb
 refine Zz (by omega) ?_;rw[ZiJ (by omega),Za];have h32:(Za8 (Zle b)).l.length=32:=(Za8 (Zle b)).hl;refine Zz (by omega) (Zz (by omega) (Zz (by omega) ?_));rw[ZiJ (by simp only[List.length_append]; omega),Za];exact Zb trivial
theorem Zsi (t:Tapi_Tx) (i:Int) (o:Tapi_Output):Tot (ZdA t i o) fun r=>r.2=0→0≤i∧i<t.2.1.length:=by
 unfold ZdA;rw[ZfU,Za];refine Zf (fun _=>Zb (by simp)) (fun h=>Zf (fun _=>Zb (by simp)) (fun hi=>?_))
 have hf:Ye t=true:=by
  apply Decidable.byContradiction
  intro c;exact h (.inl (.inl c))
 have hso:o.2.length≤520:=by
  apply Decidable.byContradiction
  intro c;exact h (.inr (by omega))
 obtain⟨l1,l2,l3,l4⟩:=Zix hf;refine ZF (I:=fun(n:Nat) (s:Int×List Int×List Int)=>s.1+(n:Int)=(t.2.1.length:Int)∧0≤s.1∧(s.2.1.length:Int)=36 * s.1∧(s.2.2.length:Int)=4 * s.1) (n:=t.2.1.length) ?_ ⟨by simp,by simp,by simp,by simp⟩;rintro n ⟨k,a,b⟩ ⟨h1,h2,h3,h4⟩
 dsimp only at h1 h2 h3 h4;simp only[ZhL];refine Zf (fun hk=>?_) (fun hk=>?_)
 ·refine Xj h2 hk fun x _=>?_
  rw[Zp9,Za];have hp:=ZmQ x.1;refine Zz (by omega) ?_;rw[Zeq (by omega),Za];refine Zb ⟨n-1,by omega,?_,?_,?_,?_⟩
  ·dsimp only
   rw[wi _ (by omega)];omega
  ·dsimp only
   rw[wi _ (by omega)];omega
  ·dsimp only
   rw[wi _ (by omega),List.length_append];omega
  ·dsimp only
   rw[wi _ (by omega),List.length_append,ZeT];omega
 ·refine Tot.out ?_
  unfold Zc6;refine ZF (I:=fun(n:Nat) (s:Int×List Int)=>s.1+(n:Int)=(t.2.2.1.length:Int)∧0≤s.1∧(s.2.length:Int)≤1000 * s.1) (n:=t.2.2.1.length) ?_ ⟨by simp,by simp,by simp⟩;rintro m ⟨q,c⟩ ⟨g1,g2,g3⟩
  dsimp only at g1 g2 g3;simp only[ZhK];refine Zf (fun hq=>?_) (fun hq=>?_)
  ·refine Xj g2 hq fun x hx=>?_
   have hx5:=(l3 x hx).2;rw[ZpG (by omega),Za]
   have ho:(Zhc x).length≤1000:=by
    have:=ZrP x;omega
   refine Zz (by omega) (Zb ⟨m-1,by omega,?_,?_,?_⟩)
   ·dsimp only
    rw[wi _ (by omega)];omega
   ·dsimp only
    rw[wi _ (by omega)];omega
   ·dsimp only
    rw[wi _ (by omega),List.length_append];omega
  ·refine Tot.out ?_
   unfold Zc5;have z1:(Za8 a).l.length=32:=(Za8 a).hl;have z2:(Za8 b).l.length=32:=(Za8 b).hl;have z3:(Za8 c).l.length=32:=(Za8 c).hl;rw[Zeq (by simp),Za,ZiJ (by omega),Za,ZjG (by simp),Za,ZiJ (by omega),Za,ZjG (by simp),Za,ZiJ (by omega),Za,ZjG (by simp),Za,Zeq (by simp),Za,Zeq (by simp),Za,ZpG (by omega),Za]
   have ho:(Zhc o).length≤1000:=by
    have:=ZrP o;omega
   refine Zz (by simp; omega) ?_;refine(Zt1 _ (by decide) (by simp; omega)).bind fun z _=>Zb fun _=>?_
   omega
theorem Zvn {t:Tapi_Tx}{i:Int}{c:Tapi_Coin}{h:Int}(hs:ScrM c.2.1.2) (hw:∀ x∈t.2.1,ZrO x.2.2):Tot (Zfl t i c h) fun _=>True:=by
 unfold Zfl;refine(Zsi t i c.2.1).bind fun m hm=>Zf (fun _=>Zb trivial) (fun h0=>?_)
 have hi:=hm (Decidable.byContradiction h0);refine Xj hi.1 hi.2 fun x hx=>Zf (fun _=>Zb trivial) (fun _=>Zf (fun _=>Zb trivial) (fun _=>?_))
 exact(ZwO hs (hw x hx) _).bind fun _ _=>Zb trivial
theorem Zsj {t:Tapi_Tx}{l:List Tapi_Coin}{h:Int}(hl:l.length≤1000000) (ht:t.2.1.length≤1000) (hs:∀ c∈l,ScrM c.2.1.2) (hw:∀ x∈t.2.1,ZrO x.2.2):Tot (Zfm t l h) fun _=>True:=by
 unfold Zfm;rw[Zmm,Za];refine Zf (fun _=>Zb trivial) (fun _=>?_);obtain⟨r,-,hr⟩:=Zwn t l;rw[hr,Za];refine Zf (fun _=>Zb trivial) (fun _=>(Zqp t ht h).bind fun y _=>Zf (fun _=>Zb trivial) (fun _=>?_));refine XC l (fun _=>True) (by omega) trivial ?_ ?_
 ·intro i hi _
  simp only[ZgL];rw[if_pos (by omega),Zi hi];exact(Zvn (hs _ (List.getElem_mem hi)) hw).bind fun z _=>Zf (fun _=>Zb trivial) (fun _=>Zb ⟨Zo hi (by omega),trivial⟩)
 ·intro _
  simp only[ZgL];rw[if_neg (by omega)];exact⟨_,rfl,trivial⟩
structure TxM (t:Tapi_Tx):Prop where
 ins:t.2.1.length=1
 wit:∀ x∈t.2.1,ZrO x.2.2∧Byt x.1.1.l
 outs:t.2.2.1.length≤2
 scr:∀ o∈t.2.2.1,ScrM o.2
theorem ZyO {s:List Int}(h:ScrM s):∃ j,(1≤j∧j≤6)∧ZiG s=some [[j]]:=by
 obtain⟨j,hj,rfl⟩:=h;refine⟨j,hj,?_⟩;unfold ZiG;rw[if_neg (by simp)];rfl
theorem Zvo {c:Tapi_Coin}(hc:ZkO c){a:Int}(h0:0≤a):Tot (Zgt c a) fun r=>TxM r.1:=by
 obtain⟨hb,hs⟩:=hc;obtain⟨j,hj,e⟩:=ZyO hs;unfold Zgt;rw[e,Za]
 have k1:∀ p (q:List Tapi_Output),q.length≤1→(∀ o∈q,ScrM o.2)→Tot (Zfj a c [[j]] p q) fun r=>TxM r.1:=by
  intro p q hq hq2;unfold Zfj;refine(ZlX (by rw[Zbz]; omega)).bind fun y hy=>Zz (by omega) (Zb ⟨rfl,?_,?_,?_⟩)
  ·intro x hx
   obtain rfl:=List.mem_singleton.1 hx;exact⟨⟨j,hj,rfl⟩,hb⟩
  ·simp
   omega
  ·intro o ho
   rcases List.mem_append.1 ho with ho | ho
   ·exact hq2 o ho
   ·obtain rfl:=List.mem_singleton.1 ho
    exact hy
 refine Zf (fun _=>?_) (fun _=>k1 _ _ (by simp) (by simp));refine(ZlX (by rw[Zbz]; omega)).bind fun y hy=>k1 _ _ (by simp) ?_
 intro o ho;obtain rfl:=List.mem_singleton.1 ho;exact hy
end
section
set_option maxRecDepth 100000
theorem ZpL (n:Nat):Byt (zA n).l:=by
 intro x hx
 have:x=0:=by
  simp only[zA] at hx;exact List.eq_of_mem_replicate hx
 omega
theorem ZrQ (h:Arr 8):∀ k,Byt (ZlT h k).l
 | 0=>ZpL 32
 | k+1=>by
  intro x hx;rcases List.mem_or_eq_of_mem_set hx with hx | rfl
  ·exact ZrQ h k x hx
  ·unfold byt
   rw[Zbz];omega
theorem ZwP (l:List Int):Byt (Za8 l).l:=ZrQ _ 32
theorem ZsU (t:Tapi_Tx):Byt (idS t).l:=by
 unfold idS;split
 ·exact ZwP _
 ·exact ZpL 32
theorem Zx2 {p:Tapi_Params}{l:Tapi_Ledger}{a:Int}(hl:l.2.2.length≤100000) (hc:∀ c∈l.2.2,ZkO c) (h0:0≤a∧a≤255):Tot (YN p l a) fun r=>r.1.length≤3∧∀ t∈r.1,TxM t:=by
 unfold YN;refine Zz (by omega) ?_;refine ZF (I:=fun(n:Nat) (s:Int×Int×List Tapi_Tx×List Tapi_Coin)=>s.2.1+(n:Int)=3∧0≤s.2.1∧((s.2.2.1.length:Int)≤s.2.1∧∀ t∈s.2.2.1,TxM t)∧(s.2.2.2.length:Int)≤100000+2 * s.2.1∧∀ c∈s.2.2.2,ZkO c) (n:=3) ?_ ⟨by simp,by simp,⟨by simp,by simp⟩,by dsimp only; omega,hc⟩;rintro n ⟨fe,k,txs,cs⟩ ⟨h1,h2,⟨h3,h4⟩,h5,h6⟩
 dsimp only at h1 h2 h3 h4 h5 h6;simp only[ZeR];rw[Zd6 h0.1];refine Zf (fun hk=>?_) (fun hk=>Tot.out (Zb ⟨by dsimp only; omega,h4⟩));have hu:0≤IntKind.u8.wrap (a.tdiv 4)∧IntKind.u8.wrap (a.tdiv 4)≤255:=by rw[Zbz]; omega
 refine ZF (I:=fun(m:Nat) (s:Int)=>s+(m:Int)=(cs.length:Int)∧0≤s) (n:=cs.length) ?_ ⟨by omega,by omega⟩;rintro m i ⟨g1,g2⟩
 simp only[ZeQ];generalize IntKind.u8.wrap (a.tdiv 4)=u at hu ⊢;rw[wi u (by omega),wi k (by omega),wi (u+k) (by omega),wi (u+k+i) (by omega),Zd6 (n:=u+k+i) (by omega)];refine Zf (fun hi=>?_) (fun hi=>?_)
 ·have he:0≤(u+k+i) % (cs.length:Int)∧(u+k+i) % (cs.length:Int)<cs.length:=⟨Int.emod_nonneg _ (by omega),Int.emod_lt_of_pos _ (by omega)⟩
  generalize (u+k+i) % (cs.length:Int)=e at he ⊢;refine Zz (by omega) (Xe he.1 he.2 fun j hj hjl=>Zer hjl fun c hcj=>Zf (fun _=>?_) (fun _=>?_))
  ·exact Zb ⟨m-1,by omega,by rw[wi _ (by omega)]; omega,by rw[wi _ (by omega)]; omega⟩
  ·have hcm:=h6 c (List.mem_of_getElem? hcj)
   refine(Zvo hcm (by rw[Zbz]; omega)).bind fun y hy=>?_
   have ho:=hy.outs;rw[wi (e+1) (by omega)];refine Zz (by omega) (Zz (by omega) (Zz (by omega) (Zz (by simp; omega) ?_)));rw[ZnE,Za];refine ZF (I:=fun(q:Nat) (s:Int×List Tapi_Coin)=>s.1+(q:Int)=(y.1.2.2.1.length:Int)∧0≤s.1∧(s.2.length:Int)≤100000+2 * k+s.1∧∀ c∈s.2,ZkO c) (n:=y.1.2.2.1.length) ?_ ⟨by simp,by simp,by simp; omega,?_⟩
   ·rintro q ⟨b,ds⟩ ⟨d1,d2,d3,d4⟩
    dsimp only at d1 d2 d3 d4;simp only[Zcg];refine Zf (fun hb=>?_) (fun hb=>?_)
    ·refine Xe d2 hb fun z hz hzl=>Zer hzl fun o hoz=>Zz (by omega) (Zb ⟨q-1,by omega,?_,?_,?_,?_⟩)
     ·dsimp only
      rw[wi _ (by omega)];omega
     ·dsimp only
      rw[wi _ (by omega)];omega
     ·dsimp only
      rw[wi (b+1) (by omega),List.length_append];simp
      omega
     ·intro c' hc'
      rcases List.mem_append.1 hc' with hc' | hc'
      ·exact d4 c' hc'
      ·obtain rfl:=List.mem_singleton.1 hc'
       exact⟨ZsU _,hy.scr o (List.mem_of_getElem? hoz)⟩
    ·refine Tot.out ?_
     unfold Zcf;refine Tot.out ?_;unfold Y1;refine Zb ⟨n-1,by omega,?_,?_,⟨?_,?_⟩,?_,d4⟩
     ·dsimp only
      rw[Zbz];omega
     ·dsimp only
      rw[Zbz];omega
     ·dsimp only
      rw[Zbz,List.length_append];simp
      omega
     ·intro t ht
      rcases List.mem_append.1 ht with ht | ht
      ·exact h4 t ht
      ·obtain rfl:=List.mem_singleton.1 ht
       exact hy
     ·dsimp only
      rw[Zbz];omega
   ·intro c' hc'
    rcases List.mem_append.1 hc' with hc' | hc'
    ·exact h6 c' (List.mem_of_mem_take hc')
    ·exact h6 c' (List.mem_of_mem_drop (List.mem_of_mem_take hc'))
 ·refine Tot.out ?_
  unfold Y1;refine Zb ⟨n-1,by omega,?_,?_,⟨?_,h4⟩,?_,h6⟩
  ·dsimp only
   rw[Zbz];omega
  ·dsimp only
   rw[Zbz];omega
  ·dsimp only
   rw[Zbz];omega
  ·dsimp only
   rw[Zbz];omega
structure BlkM (b:Tapi_Block):Prop where
 bits:M32 b.1.2.2.2.2.1
 len:b.2.length≤4
 one:∀ t∈b.2,t.2.1.length=1∧t.2.2.1.length≤2∧(∀ x∈t.2.1,Byt x.1.1.l)∧∀ o∈t.2.2.1,ScrM o.2
 wit:∀ i (h:i<b.2.length),0<i→∀ x∈b.2[i].2.1,ZrO x.2.2
structure ZnH (c:Tapi_Context):Prop where
 bits:M32 c.2.2.1
 times:c.2.2.2.2.length≤100
structure ZpM (l:Tapi_Ledger):Prop where
 len:l.2.2.length≤100000
 coins:∀ c∈l.2.2,ZkO c
theorem Zvp {p:Tapi_Params}(hp:PrmOk p){l:Tapi_Ledger}(hl:ZpM l) (hh:0≤l.1∧l.1≤1000000){c:Tapi_Context}(hc:ZnH c){a:Int}(h0:0≤a∧a≤255):Tot (Zfk p l c a) BlkM:=by
 unfold Zfk;refine(Zx2 hl.len hl.coins h0).bind fun y hy=>?_
 rw[wi (l.1+1) (by omega)];refine(Zon hp (by omega)).bind fun s hs=>(ZlX (by rw[Zbz]; omega)).bind fun z hz=>?_
 have e1:Zfb (l.1+1) (IntKind.i64.wrap (s+y.2)) z=some (1,[((zA 32,4294967295),IntKind.u32.wrap (l.1+1),[])],[(IntKind.i64.wrap (s+y.2),z)],0):=rfl;rw[e1,Za];refine Zz (by omega) ((Zpj _ (by simp; omega)).bind fun r _=>?_);have e2:∃ q,Zf7 a=some q:=⟨_,rfl⟩
 obtain⟨q,e2⟩:=e2;rw[e2,Za];refine(ZwN hp hc.bits (by have:=hc.times; omega) r q).bind fun h hb=>Zb ⟨hb,?_,?_,?_⟩
 ·simp
  omega
 ·intro t ht
  rcases List.mem_append.1 ht with ht | ht
  ·obtain rfl:=List.mem_singleton.1 ht
   refine⟨rfl,by simp,?_,?_⟩
   ·intro x hx
    obtain rfl:=List.mem_singleton.1 hx;exact ZpL 32
   ·intro o ho
    obtain rfl:=List.mem_singleton.1 ho;exact hz
  ·have:=hy.2 t ht
   exact⟨this.ins,this.outs,fun x hx=>(this.wit x hx).2,this.scr⟩
 ·intro i hi hpos x hx
  obtain⟨i,rfl⟩:∃ k,i=k+1:=⟨i-1,by omega⟩
  simp only[List.singleton_append,List.getElem_cons_succ] at hx;exact((hy.2 _ (List.getElem_mem _)).wit x hx).1
end
end Go.Lc
