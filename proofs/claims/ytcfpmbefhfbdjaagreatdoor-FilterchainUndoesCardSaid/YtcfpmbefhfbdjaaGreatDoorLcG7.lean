import Derived.Test.YtcfpmbefhfbdjaaGreatDoorLcG6
import Derived.Test.YtcfpmbefhfbdjaaGreatDoorLcG4
import Derived.Test.YtcfpmbefhfbdjaaGreatDoorLcG3
namespace Go.Lc
open Go.RowKit
open Go.Av
set_option linter.unusedVariables false
set_option linter.unusedSimpArgs false
section
set_option maxRecDepth 100000
theorem ZwF {α:Type}{x:Option α}{a:α}(h:Tot x fun r=>r=a):x=some a:=by
 obtain⟨r,rfl,rfl⟩:=h;rfl
theorem ZuN {l:List Int}(hl:l.length≤9223372036854775807):Tot (Zgk l 8) fun r=>r.length≤8∧∀ a∈r,a∈l:=by
 unfold Zgk
 have e:∃ m:Nat,(if (8:Int)<(l.length:Int) then 8 else(l.length:Int))=(m:Int)∧m≤8∧m≤l.length:=by
  by_cases h:(8:Int)<(l.length:Int)
  ·exact⟨8,by rw[if_pos h]; rfl,by omega,by omega⟩
  ·exact⟨l.length,by rw[if_neg h],by omega,by omega⟩
 obtain⟨m,e,h1,h2⟩:=e;rw[e];refine Zw (by omega) (Zb ⟨?_,fun a ha=>List.mem_of_mem_take ha⟩);rw[Int.toNat_natCast,List.length_take];omega
section
variable {b:Tapi_Block}
theorem ZtA (h:BlkM b):Zl9 b:=by
 refine⟨by have:=h.len; omega,fun t ht=>?_⟩;obtain⟨h1,h2,h3,h4⟩:=h.one t ht;exact⟨by omega,by omega,fun o ho=>by have:=(h4 o ho).len; omega⟩
theorem ZuO (h:BlkM b):ZuF b:=fun t ht=>⟨(h.one t ht).2.2.1,fun o ho=>((h.one t ht).2.2.2 o ho).byt⟩
theorem Zn8 (h:BlkM b):(elS b).length≤12:=by
 have h1:∀ t∈b.2,(txE t).length≤3:=by
  intro t ht;obtain⟨h1,h2,-,-⟩:=h.one t ht;have ho:=ZdD ZiB 1 t.2.2.1 fun o _=>Zlr o
  have hi:=ZdD inE 1 t.2.1 fun o _=>by simp[inE]
  unfold txE;rw[List.length_append];split
  ·simp only[List.length_nil]
   omega
  ·omega
 have:=ZdD txE 3 b.2 h1;have:=h.len;unfold elS;omega
theorem Zsg (h:BlkM b) (hc:Zn5 b):∃ r,ZdW b=some r∧r.2=0∧Byt r.1.2∧BR (Zr3 (Zm7 b.1)) (elS b) 10 1533 r:=by
 obtain⟨-,-,he⟩:=ZmJ hc.fits;obtain⟨r,h1,h2⟩:=ZwE (ZtA h) (ZuO h) (Zn8 h) (by rw[he]);obtain⟨g1,g2,-,-⟩:=ZuS (by have:=Zn8 h; omega) h2;exact⟨r,h1,g1,g2,h2⟩
end
end
section
set_option maxRecDepth 100000
theorem ZvR {k:Arr 2}{l:List (List Int)}{r:Tapi_Filter×Int}(hl:l.length≤4096) (h:BR k l 10 1533 r):(Zkb r.1).2=0:=by
 obtain⟨-,-,hc,hd⟩:=ZuS hl h;have h1:=Zqa l;unfold DR at hd;by_cases h2:4096<r.1.1∨200000<(r.1.2.length:Int)
 ·rw[if_pos h2] at hd
  have:=congrArg Prod.snd hd;simp at this
 ·unfold Zkb
  rw[if_neg (by omega)]
end
section
set_option maxRecDepth 100000
def BuiltM (r:Tapi_FilterChain×List Tapi_Filter×Bool):Prop:=∃ (bs:List (Arr 32)) (fs:List Tapi_Filter),r=((bs,hdrs (zA 32) (fs.map ZfQ)),fs,true)∧bs.length=fs.length∧fs.length≤8∧∀ f∈fs,(Zkb f).2=0
theorem ZtB {v:Int}(hv:0≤v∧v≤255){l:List Int}(hl:l.length≤9223372036854775807∧∀ a∈l,0≤a∧a≤255):Tot (Zes v l) BuiltM:=by
 unfold Zes;refine(ZuN hl.1).bind fun s hs=>(Ztz hv (fun a ha=>hl.2 a (hs.2 a ha)) (by omega)).bind fun w hw=>?_
 have hwl:w.2.1.length≤8:=by have:=hw.lens.2.2.2; omega
 refine ZI (I:=fun n s=>∃ (i:Nat) (bs:List (Arr 32)) (fs:List Tapi_Filter),s=((i:Int),bs,fs.map ZfQ,fs)∧i+n=w.2.1.length∧bs.length=i∧fs.length=i∧∀ f∈fs,(Zkb f).2=0) (n:=w.2.1.length) ?_ ⟨0,[],[],rfl,by omega,rfl,rfl,by simp⟩;rintro n _ ⟨i,bs,fs,rfl,hi,h1,h2,h3⟩
 simp only[ZhV];by_cases hlt:i<w.2.1.length
 ·rw[if_pos (by omega),YS hlt,Zis hlt]
  obtain⟨hc,hm⟩:=hw.blk _ (List.getElem_mem hlt);generalize w.2.1[i]=b at hc hm ⊢;obtain⟨r,g1,g2,g3,g4⟩:=Zsg hm hc;rw[g1,Za,if_neg (by simp[g2]),Zhw,Za,Zj (by omega),ZpX,Za,Zj (by simp; omega),Zj (by omega)];refine⟨_,rfl,n-1,by omega,i+1,bs++[Zm7 b.1],fs++[r.1],?_,by omega,by simp[h1],by simp[h2],?_⟩
  ·rw[wi _ (by omega),List.map_append]
   rfl
  ·intro f hf
   rcases List.mem_append.1 hf with h | h
   ·exact h3 f h
   ·obtain rfl:=List.mem_singleton.1 h
    exact ZvR (by have:=Zn8 hm; omega) g4
 ·rw[if_neg (by omega)]
  refine Tot.out ?_;unfold ZfP;rw[Znx (c:=([],[])) rfl (by simp[h1,h2]) (by simp; omega),Za];exact⟨_,rfl,bs,fs,by simp[Ziz],by omega,by omega,h3⟩
end
section
set_option maxRecDepth 100000
theorem ZoP {a:List (Arr 32)}(h:a.length≤1000000):Yx [a]=some a:=by
 unfold Yx
 rw[ZU (s' := (1,a)) (by
  simp only[Xm];rw[if_pos (by simp),show(0:Int)=((0:Nat):Int) from rfl,Zi (by simp),Zj (by simp; omega)]
  simp[wi])]
 refine YU ?_;simp only[Xm];rw[if_neg (by simp)];rfl
theorem Zqb {c:Tapi_FilterChain}{n:Nat}(h:c.1.length=c.2.length) (hl:c.1.length≤4096) (hn:n≤c.2.length):Y7 c (n:Int)=some ((c.1.take n,c.2.take n),0):=by
 unfold Y7;have h1:(c.1.take n).length≤1000000:=by rw[List.length_take]; omega
 have h2:(c.2.take n).length≤1000000:=by rw[List.length_take]; omega
 rw[Zm4 h hl,Za,if_neg (by simp),if_neg (by omega),Zj (by omega),Int.toNat_natCast,ZoP h1,Za,Zj (by omega),ZoP h2,Za]
theorem ZmO (a:List (Arr 32)) (h:a.length≤1000000):X0 a a=some true:=by
 unfold X0;rw[if_neg (by simp)];refine ZG (step:=ZaW a a) (fun i=>(i:Int)) a.length (x:=some true) (fun i hi=>?_) ?_
 ·simp only[ZaW]
  rw[if_pos (by omega),Zi hi,Zi hi,if_neg (by simp),wi _ (by omega)];rfl
 ·simp only[ZaW]
  rw[if_neg (by omega)];rfl
theorem ZtC (c:Tapi_FilterChain) (h1:c.1.length≤1000000) (h2:c.2.length≤1000000):ZdZ c c=some true:=by
 unfold ZdZ;rw[ZmO _ h1,Za,if_pos rfl,ZmO _ h2,Za,Za];rfl
theorem ZvS {c:Tapi_FilterChain}{b:List (Arr 32)}(h:c.1.length=c.2.length) (hl:c.1.length≤4096) (hb:b.length≤4096):Tot (Y8 c b) fun m=>∃ n:Nat,m=n∧n≤c.1.length∧n≤b.length∧c.1.take n=b.take n:=by
 unfold Y8;rw[Zm4 h hl,Za,if_neg (by simp)];refine(ZrU c.1 b (by omega) (by omega)).bind fun r hr=>?_
 rcases hr with ⟨rfl,he⟩ | ⟨n,rfl,h1,h2,h3⟩
 ·rw[if_neg (by omega)]
  exact Zb ⟨b.length,rfl,by rw[he]; exact Nat.le_refl _,Nat.le_refl _,by rw[he]⟩
 ·rw[if_pos (by omega)]
  exact Zb ⟨n,rfl,h1,h2,h3⟩
theorem ZwG {c:Tapi_FilterChain}{b f:List (Arr 32)}{n:Nat}(h:c.1.length=c.2.length) (hl:c.1.length≤4096) (hb:b.length≤4096) (hc:Y8 c b=some (n:Int)) (h1:n≤c.1.length) (h2:n≤b.length) (hf:f.length=b.length-n):Zac c b f=some ((c.1.take n++b.drop n,c.2.take n++hdrs (Ziz (c.2.take n) n) f),0):=by
 unfold Zac;have l1:(c.1.take n).length=n:=by rw[List.length_take]; omega
 have l2:(c.2.take n).length=n:=by rw[List.length_take]; omega
 have he:=Znx (c:=(c.1.take n,c.2.take n)) (b:=b.drop n) (f:=f) (by rw[l1,l2]) (by rw[List.length_drop,hf]) (by simp only[l1,List.length_drop]; omega);simp only[l2] at he;rw[hc,Za,Zqb h hl (by omega),Za,if_neg (by simp),Zj (by omega),Int.toNat_natCast,he,Za]
theorem filterchainUndoes (v:Int) (l:List Int) (a b:List (Arr 32)) (k:Int) (hv:0≤v∧v≤255) (hl:l.length≤9223372036854775807∧∀ a∈l,0≤a∧a≤255) (hk:0≤k∧k≤255):YE v l a b k=some true:=by
 refine ZwF ?_;unfold YE;rw[sane21,Za,if_neg (by simp)];refine(ZtB hv hl).bind fun r hr=>?_
 obtain⟨bs,fs,rfl,h1,h2,h3⟩:=hr;have hh:=Zd2 (zA 32) (fs.map ZfQ);rw[List.length_map] at hh;have hspl:=fun n hn=>ZrV (fs.map ZfQ) n hn
 rw[List.length_map] at hspl;generalize hH:hdrs (zA 32) (fs.map ZfQ)=H at hh hspl ⊢;dsimp only;rw[if_neg (by simp),ZhW,Za,Za];refine Zf (fun h=>Zb rfl) (fun h=>?_)
 have hab:a.length=b.length∧a.length≤40:=by
  simp only[not_or,Decidable.not_not,Bool.not_eq_true',Bool.not_eq_true,Bool.not_eq_false',Bool.not_eq_false,Bool.and_eq_true,decide_eq_true_eq] at h;omega
 obtain⟨hab,ha⟩:=hab;rw[Znx (c:=(bs,H)) (by simp only; omega) hab (by simp only; omega),Za];dsimp only;have e1:(bs++a).take bs.length=bs:=by simp
 have e2:(H++hdrs (Ziz H H.length) b).take bs.length=H:=by
  rw[show bs.length=H.length by omega];simp
 have hr1:=Zqb (c:=(bs++a,H++hdrs (Ziz H H.length) b)) (n:=bs.length) (by simp only[List.length_append,Zd2]; omega) (by simp only[List.length_append]; omega) (by simp only[List.length_append]; omega);simp only[e1,e2] at hr1;rw[hr1,Za];dsimp only;rw[if_neg (by simp),ZtC _ (by simp only; omega) (by simp only; omega),Za,Za,if_neg (by simp),wi ((bs.length:Int)+1) (by omega),Zj (by omega),wi k (by omega),Zbw hk.1]
 obtain⟨K,hK,hKl⟩:∃ K:Nat,k % ((bs.length:Int)+1)=(K:Int)∧K≤bs.length:=by
  have g1:=Int.emod_nonneg k (b:=(bs.length:Int)+1) (by omega);have g2:=Int.emod_lt_of_pos k (b:=(bs.length:Int)+1) (by omega);exact⟨(k % ((bs.length:Int)+1)).toNat,by omega,by omega⟩
 rw[hK,Zqb (c:=(bs,H)) (n:=K) (by simp only; omega) (by simp only; omega) (by simp only; omega),Za];dsimp only;have l1:(bs.take K).length=K:=by rw[List.length_take]; omega
 have l2:(H.take K).length=K:=by rw[List.length_take]; omega
 rw[Znx (c:=(bs.take K,H.take K)) (by simp only[l1,l2]) hab (by simp only[l1]; omega),Za];dsimp only;rw[l2];generalize hy2:H.take K++hdrs (Ziz (H.take K) K) b=Y2;generalize hy1:bs.take K++a=Y1;have ly1:Y1.length=K+a.length:=by rw[← hy1,List.length_append,l1]
 have ly2:Y2.length=K+a.length:=by rw[← hy2,List.length_append,l2,Zd2]; omega
 have hloop:Ze (YM ((bs,H),fs,true) ((Y1,Y2),0) ((bs.take K,H.take K),0) k) (0,[])=Xl ((Y1,Y2),0) ((bs,H),fs,true) (fs.map ZfQ) ((bs.take K,H.take K),0) k:=by
  have:=ZG (step:=YM ((bs,H),fs,true) ((Y1,Y2),0) ((bs.take K,H.take K),0) k) (fun i=>((i:Int),(fs.take i).map ZfQ)) fs.length (x:=Xl ((Y1,Y2),0) ((bs,H),fs,true) (fs.map ZfQ) ((bs.take K,H.take K),0) k) (fun i hi=>by
   simp only[YM];rw[if_pos (by omega),Zi hi,ZpX,Za,Zj (by simp; omega),wi _ (by omega),show List.take (i+1) fs=List.take i fs++[fs[i]] from by simp,List.map_append];rfl) (by
   simp only[YM]
   rw[if_neg (by omega),List.take_length])
  simpa using this
 rw[hloop];unfold Xl;dsimp only;obtain⟨m,hm,n,rfl,n1,n2,n3⟩:=ZvS (c:=(Y1,Y2)) (b:=bs) (by simp only; omega) (by simp only; omega) (by omega)
 have hdl:(((fs.map ZfQ).drop n).take ((fs.map ZfQ).length-n))=(fs.map ZfQ).drop n:=by
  rw[List.take_of_length_le (by simp)]
 rw[hm,Za,Zj (by simp; omega),Int.toNat_natCast,hdl,ZwG (c:=(Y1,Y2)) (n:=n) (by simp only; omega) (by simp only; omega) (by omega) hm n1 n2 (by simp; omega),Za];dsimp only
 have llen:((Y2.take n++hdrs (Ziz (Y2.take n) n) ((fs.map ZfQ).drop n)).length:Int)=(H.length:Int):=by
  have g1:n≤Y2.length:=by
   have:n≤Y1.length:=n1;omega
  rw[List.length_append,Zd2,List.length_drop,List.length_map,List.length_take];omega
 rw[if_pos ⟨⟨⟨rfl,rfl⟩,rfl⟩,llen⟩,wi ((bs.length:Int)+1) (by omega),wi k (by omega),Zbw hk.1,hK];by_cases hlt:(K:Int)<(n:Int)
 ·rw[if_pos hlt,Za,Za]
  refine Zb ?_;simp only[llen,hlt,decide_true,Bool.true_or,Bool.and_self,Bool.and_true]
 ·rw[if_neg hlt]
  have g1:Y1.take n=bs.take n:=n3
  have g2:Y2.take n=H.take n:=by
   rw[← hy2,List.take_append_of_le_length (by rw[l2]; omega),List.take_take,Nat.min_eq_left (by omega)]
  have g3:=hspl n (by omega);rw[g1,g2,List.take_append_drop,g3,ZtC _ (by simp only; omega) (by simp only; omega),Za,Za,Za];refine Zb ?_;simp[hlt]
end
end Go.Lc
