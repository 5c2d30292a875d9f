import Derived.Test.YtcfpmbefhfbdjaaGreatDoorLcG6
import Derived.Test.YtcfpmbefhfbdjaaGreatDoorLcG4
import Derived.Test.YtcfpmbefhfbdjaaGreatDoorLcG3
namespace Go.Lc
open Go.RowKit
open Go.Av
set_option linter.unusedVariables false
set_option linter.unusedSimpArgs false
section
set_option maxRecDepth 100000
theorem Zwv {α:Type}{x:Option α}{a:α}(h:Tot x fun r=>r=a):x=some a:=by
 obtain⟨r,rfl,rfl⟩:=h;rfl
theorem ZuE {l:List Int}(hl:l.length≤9223372036854775807):Tot (Zgd l 8) fun r=>r.length≤8∧∀ a∈r,a∈l:=by
 unfold Zgd
 have e:∃ m:Nat,(if (8:Int)<(l.length:Int) then 8 else(l.length:Int))=(m:Int)∧m≤8∧m≤l.length:=by
  by_cases h:(8:Int)<(l.length:Int)
  ·exact⟨8,by rw[if_pos h]; rfl,by omega,by omega⟩
  ·exact⟨l.length,by rw[if_neg h],by omega,by omega⟩
 obtain⟨m,e,h1,h2⟩:=e;rw[e];refine Zw (by omega) (Zb ⟨?_,fun a ha=>List.mem_of_mem_take ha⟩);rw[Int.toNat_natCast,List.length_take];omega
section
variable {b:Tapi_Block}
theorem Zto (h:BlkM b):ZlZ b:=by
 refine⟨by have:=h.len; omega,fun t ht=>?_⟩;obtain⟨h1,h2,h3,h4⟩:=h.one t ht;exact⟨by omega,by omega,fun o ho=>by have:=(h4 o ho).len; omega⟩
theorem ZuF (h:BlkM b):Zuw b:=fun t ht=>⟨(h.one t ht).2.2.1,fun o ho=>((h.one t ht).2.2.2 o ho).byt⟩
theorem ZnX (h:BlkM b):(elS b).length≤12:=by
 have h1:∀ t∈b.2,(txE t).length≤3:=by
  intro t ht;obtain⟨h1,h2,-,-⟩:=h.one t ht;have ho:=Zdu Zit 1 t.2.2.1 fun o _=>Zli o
  have hi:=Zdu inE 1 t.2.1 fun o _=>by simp[inE]
  unfold txE;rw[List.length_append];split
  ·simp only[List.length_nil]
   omega
  ·omega
 have:=Zdu txE 3 b.2 h1;have:=h.len;unfold elS;omega
theorem Zr2 (h:BlkM b) (hc:ZmZ b):∃ r,ZdP b=some r∧r.2=0∧Byt r.1.2∧BR (ZrQ (ZmY b.1)) (elS b) 10 1533 r:=by
 obtain⟨-,-,he⟩:=Zmz hc.fits;obtain⟨r,h1,h2⟩:=Zwu (Zto h) (ZuF h) (ZnX h) (by rw[he]);obtain⟨g1,g2,-,-⟩:=ZuJ (by have:=ZnX h; omega) h2;exact⟨r,h1,g1,g2,h2⟩
end
end
section
set_option maxRecDepth 100000
theorem ZvI {k:Arr 2}{l:List (List Int)}{r:Tapi_Filter×Int}(hl:l.length≤4096) (h:BR k l 10 1533 r):(ZfX r.1).2=0:=by
 obtain⟨-,-,hc,hd⟩:=ZuJ hl h;have h1:=ZpW l;unfold DR at hd;by_cases h2:4096<r.1.1∨200000<(r.1.2.length:Int)
 ·rw[if_pos h2] at hd
  have:=congrArg Prod.snd hd;simp at this
 ·unfold ZfX
  rw[if_neg (by omega)]
end
section
set_option maxRecDepth 100000
def BuiltM (r:Tapi_FilterChain×List Tapi_Filter×Bool):Prop:=∃ (bs:List (Arr 32)) (fs:List Tapi_Filter),r=((bs,hdrs (zA 32) (fs.map Zd3)),fs,true)∧bs.length=fs.length∧fs.length≤8∧∀ f∈fs,(ZfX f).2=0
theorem Ztp {v:Int}(hv:0≤v∧v≤255){l:List Int}(hl:l.length≤9223372036854775807∧∀ a∈l,0≤a∧a≤255):Tot (Zel v l) BuiltM:=by
 unfold Zel;refine(ZuE hl.1).bind fun s hs=>(Ztn hv (fun a ha=>hl.2 a (hs.2 a ha)) (by omega)).bind fun w hw=>?_
 have hwl:w.2.1.length≤8:=by have:=hw.lens.2.2.2; omega
 refine ZE (I:=fun n s=>∃ (i:Nat) (bs:List (Arr 32)) (fs:List Tapi_Filter),s=((i:Int),bs,fs.map Zd3,fs)∧i+n=w.2.1.length∧bs.length=i∧fs.length=i∧∀ f∈fs,(ZfX f).2=0) (n:=w.2.1.length) ?_ ⟨0,[],[],rfl,by omega,rfl,rfl,by simp⟩;rintro n _ ⟨i,bs,fs,rfl,hi,h1,h2,h3⟩
 simp only[ZhP];by_cases hlt:i<w.2.1.length
 ·rw[if_pos (by omega),YM hlt,Zil hlt]
  obtain⟨hc,hm⟩:=hw.blk _ (List.getElem_mem hlt);generalize w.2.1[i]=b at hc hm ⊢;obtain⟨r,g1,g2,g3,g4⟩:=Zr2 hm hc;rw[g1,Za,if_neg (by simp[g2]),Zhq,Za,Zj (by omega),ZmU,Za,Zj (by simp; omega),Zj (by omega)];refine⟨_,rfl,n-1,by omega,i+1,bs++[ZmY b.1],fs++[r.1],?_,by omega,by simp[h1],by simp[h2],?_⟩
  ·rw[wi _ (by omega),List.map_append]
   rfl
  ·intro f hf
   rcases List.mem_append.1 hf with h | h
   ·exact h3 f h
   ·obtain rfl:=List.mem_singleton.1 h
    exact ZvI (by have:=ZnX hm; omega) g4
 ·rw[if_neg (by omega)]
  refine Tot.out ?_;unfold ZfJ;rw[Zwe (c:=([],[])) rfl (by simp[h1,h2]) (by simp; omega),Za];exact⟨_,rfl,bs,fs,by simp[ZdU],by omega,by omega,h3⟩
theorem filterchainMade (v:Int) (l:List Int) (o:Tapi_Filter) (hv:0≤v∧v≤255) (hl:l.length≤9223372036854775807∧∀ a∈l,0≤a∧a≤255):Zbx v l o=some true:=by
 refine Zwv ?_;unfold Zbx;rw[sane21,Za,if_neg (by simp)];refine(Ztp hv hl).bind fun r hr=>?_
 obtain⟨bs,fs,rfl,h1,h2,h3⟩:=hr;have hh:=Zft (zA 32) (fs.map Zd3);rw[List.length_map] at hh;refine Ze (fun h=>Zb rfl) (fun h=>?_);refine ZE (I:=fun n s=>∃ i:Nat,s=((i:Int),ZdU (hdrs (zA 32) (fs.map Zd3)) i)∧i+n=fs.length) (n:=fs.length) ?_ ⟨0,rfl,by omega⟩;rintro n _ ⟨i,rfl,hi⟩
 simp only[Zcm];by_cases hlt:i<fs.length
 ·rw[if_pos (by omega),Zi hlt,ZsV (by simp; omega) (by simp; omega) (by simp; omega),Za]
  have hg:=Zuf (fs.map Zd3) i (by simpa using hlt);simp only[List.getElem_map] at hg;have hf:=h3 _ (List.getElem_mem hlt)
  have hn:ZdU (hdrs (zA 32) (fs.map Zd3)) (i+1)=(hdrs (zA 32) (fs.map Zd3))[i]:=by
   unfold ZdU;rw[if_neg (by omega),List.getD_eq_getElem?_getD,List.getElem?_eq_getElem (by omega)];rfl
  dsimp only at hg ⊢;rw[if_neg (show ¬ ¬ (ZfX fs[i]).2=0 from fun h=>h hf),if_pos hg.symm,if_neg (by simp),ZsV (by simp; omega) (by simp; omega) (by simp; omega),Za]
  have hnx:Tot (some (Sum.inl (IntKind.i64.wrap ((i:Int)+1),(hdrs (zA 32) (fs.map Zd3))[i])):Option ((Int×Arr 32) ⊕ Bool)) (Nx (fun n s=>∃ i:Nat,s=((i:Int),ZdU (hdrs (zA 32) (fs.map Zd3)) i)∧i+n=fs.length) (fun r=>r=true) n) :=
   ⟨_,rfl,n-1,by omega,i+1,by rw[wi _ (by omega),hn]; rfl,by omega⟩
  dsimp only;by_cases he:(ZfX o).2=0
  ·rw[if_neg (show ¬ ¬ (ZfX o).2=0 from fun h=>h he)]
   by_cases h4:ZgX (Zd3 o) (ZdU (hdrs (zA 32) (fs.map Zd3)) i)=(hdrs (zA 32) (fs.map Zd3))[i]
   ·rw[if_pos h4,if_pos rfl,ZmU,Za,ZiO,Za,Zi (by omega),Za,if_neg (by simp[h4]),Zi (by omega)]
    exact hnx
   ·rw[if_neg h4,if_neg (by simp),Za,if_neg (by simp),Zi (by omega)]
    exact hnx
  ·rw[if_pos he,if_neg he,Za,if_neg (by simp[he]),Zi (by omega)]
   exact hnx
 ·obtain rfl:i=fs.length:=by omega
  rw[if_neg (by omega)];refine Tot.out ?_;unfold Zay;rw[Zvr (by simp; omega) (by simp; omega) (by simp; omega),Za];exact⟨_,rfl,rfl⟩
end
end Go.Lc
