import Derived.Test.YthpkpciceodioaaGreatDoorLcG4
import Derived.Test.YthpkpciceodioaaGreatDoorLcG3
namespace Go.Lc
open Go.RowKit
open Go.Av
set_option linter.unusedVariables false
set_option linter.unusedSimpArgs false
section
set_option maxRecDepth 100000
theorem mask_byte:∀ (x:Fin 256) (k:Fin 8),(∀ j:Fin 8,k≤j→bb (x.val:Int) j.val=false)→bits .and .u8 (x.val:Int) ((255:Int).fdiv (2 ^ (min k.val 8)))=0:=by decide +kernel
theorem nlen (n:Nat) (hn:n≤2000000):IntKind.i64.wrap ((IntKind.i64.wrap ((n:Int)+7)).tdiv 8)=(((n+7) / 8:Nat):Int):=by
 rw [wi ((n:Int)+7) (by omega),show (n:Int)+7=((n+7:Nat):Int) by omega,Zln,wI _ (by omega)]
theorem Zpy {d:List Int} {n:Nat} (h:VB d n) (hn:n≤1600000):Zdw (d,(n:Int))=some true:=by
 have hlen:=h.len;simp only [Zdw,nlen n (by omega),Zke];rw [if_neg (by omega)];by_cases h0:n % 8=0
 ·rw [if_pos (by omega),Zb]
  simp [h0]
 ·have hl:d.length-1<d.length:=by omega
  have hx:=h.byt.get (d.length-1);rw [if_neg (by omega),show IntKind.i64.wrap ((d.length:Int)-1)=((d.length-1:Nat):Int) by rw [wi _ (by omega)]; omega,Zt hl,Zg (by omega),Zb,show (((n % 8:Nat):Int)).toNat=n % 8 by omega];obtain ⟨x,hxe⟩:∃ x:Fin 256,d.getD (d.length-1) 0=(x.val:Int):=⟨⟨(d.getD (d.length-1) 0).toNat,by omega⟩,by simp only; omega⟩
  have hg:d[d.length-1]=(x.val:Int):=by rw [← hxe]; simp [List.getD_eq_getElem?_getD,hl]
  have hm:=mask_byte x ⟨n % 8,Nat.mod_lt _ (by omega)⟩ (fun j hj=>by
   have:=h.rest (8 * (d.length-1)+j.val) (by have:n % 8≤j.val:=hj; omega);rw [bt,show (8 * (d.length-1)+j.val) / 8=d.length-1 by omega,show (8 * (d.length-1)+j.val) % 8=j.val by omega,hxe] at this
   exact this)
  simp only at hm;rw [hg,hm];simp
theorem and1_byte:∀ (x:Fin 256) (k:Fin 8),decide (bits .and .u8 ((x.val:Int).fdiv (2 ^ (min (7-k.val) 8))) 1=1)=bb (x.val:Int) k.val:=by decide +kernel
theorem Ztq {d:List Int} {i:Nat} {n:Int} (h:Byt d) (hi:i<8 * d.length) (hs:i≤4000000):Zen (d,n) (i:Int)=some (bt d i):=by
 have hl:i / 8<d.length:=by omega
 have hx:=h.get (i / 8);obtain ⟨x,hxe⟩:∃ x:Fin 256,d.getD (i / 8) 0=(x.val:Int):=⟨⟨(d.getD (i / 8) 0).toNat,by omega⟩,by simp only; omega⟩
 have hg:d[i / 8]=(x.val:Int):=by rw [← hxe]; simp [List.getD_eq_getElem?_getD,hl]
 have e7:IntKind.i64.wrap (7-((i % 8:Nat):Int))=((7-i % 8:Nat):Int):=by rw [wi _ (by omega)]; omega
 simp only [Zen,Zke,Zln,wI (i / 8) (by omega),e7];rw [Zt hl,Zg (by omega),show (((7-i % 8:Nat):Int)).toNat=7-i % 8 by omega,hg,bt,hxe];have:=and1_byte x ⟨i % 8,Nat.mod_lt _ (by omega)⟩;simp only at this;rw [this]
theorem ZqF {d:List Int} {n:Nat} (h:VB d n) (hn:n≤1600000):ZcM (d,(n:Int))=some true:=by
 have hlen:=h.len;simp only [ZcM,nlen n (by omega)];rw [if_neg (by omega)]
 obtain ⟨r,h1,rfl⟩:=Xg (step:=Zcn (d,(n:Int))) (fun m (s:Int)=>∃ i:Nat,s=(i:Int)∧n≤i∧i≤8 * d.length∧m=8 * d.length-i) (fun r=>r=true) (by
  rintro m s ⟨i,rfl,h1,h2,rfl⟩
  have e8:IntKind.i64.wrap (8 * (d.length:Int))=((8 * d.length:Nat):Int):=by rw [wi _ (by omega)]; omega
  by_cases hi:i<8 * d.length
  ·refine .inl ⟨8 * d.length-(i+1),((i+1:Nat):Int),by omega,?_,i+1,rfl,by omega,by omega,rfl⟩
   simp only [Zcn,e8,if_pos (show (i:Int)<((8 * d.length:Nat):Int) by omega)];rw [Ztq h.byt hi (by omega),Zb,h.rest i h1,if_neg (by simp),wS (by omega)]
  ·refine .inr ⟨true,?_,rfl⟩
   simp only [Zcn,e8,if_neg (show ¬ (i:Int)<((8 * d.length:Nat):Int) by omega),Lref18_Valid_k1]
   rfl) _ (n:Int) ⟨n,rfl,Nat.le_refl _,by omega,rfl⟩
 exact h1
def Wr (d:List Int) (n:Nat) (B:List Bool) (x:List Int×Int):Prop:=x.2=((n+B.length:Nat):Int)∧VB x.1 (n+B.length)∧bl x.1 (n+B.length)=bl d n++B
theorem Wr.nil {d:List Int} {n:Nat} (h:VB d n):Wr d n [] (d,(n:Int)):=⟨rfl,by simpa using h,by simp⟩
theorem Wr.snoc {d d':List Int} {n m:Nat} {B:List Bool} (b:Bool) (h:Wr d n B (d',(m:Int))):Wr d n (B++[b]) (nd d' m b,((m+1:Nat):Int)):=by
 obtain ⟨h1,h2,h3⟩:=h;have e:m=n+B.length:=by simp only at h1; omega
 subst e;obtain ⟨g1,g2⟩:=Ztp b h2;simp only at h3;refine ⟨by simp; omega,by simpa [Nat.add_assoc] using g1,?_⟩;rw [show n+(B++[b]).length=n+B.length+1 by simp; omega];show bl (nd d' (n+B.length) b) _=_
 rw [g2,h3,List.append_assoc]
theorem Wr.vb {d d':List Int} {n m:Nat} {B:List Bool} (h:Wr d n B (d',(m:Int))):VB d' m∧m=n+B.length:=by
 obtain ⟨h1,h2,_⟩:=h;have e:m=n+B.length:=by simp only at h1; omega
 subst e;exact ⟨h2,rfl⟩
theorem and1 {x:Int} (h0:0≤x) (h1:x≤18446744073709551615):bits .and .u64 x 1=x % 2:=by
 show IntKind.u64.wrap ((BitVec.ofInt 64 x &&& BitVec.ofInt 64 1).toNat:Int)=_
 rw [BitVec.toNat_and]
 have e1:(BitVec.ofInt 64 x).toNat=x.toNat:=by
  simp [BitVec.toNat_ofInt]
  omega
 have e2:(BitVec.ofInt 64 1).toNat=1:=rfl;rw [e1,e2,Nat.and_one_is_mod,wu _ (by omega)];omega
def ZhP (v:Int) (p:Nat):List Bool:=(List.range p).map fun i=>decide ((v / 2 ^ (p-1-i)) % 2=1)
def Zh9 (v:Int) (p:Nat):List Bool:=List.replicate (v / 2 ^ p).toNat true++(false :: ZhP v p)
theorem Zia (v:Int) (p:Nat):(ZhP v p).length=p:=by simp [ZhP]
theorem Zn9 (v:Int) (p:Nat):(Zh9 v p).length=(v / 2 ^ p).toNat+1+p:=by simp [Zh9,Zia]; omega
theorem fd {v:Int} (h:0≤v) (k:Nat):v.fdiv (2 ^ k)=v / 2 ^ k:=Int.fdiv_eq_ediv_of_nonneg _ (by have:(0:Int)<2 ^ k:=Int.pow_pos (by omega); omega)
theorem Zft {v:Int} (h0:0≤v) (k:Nat):0≤v / 2 ^ k∧v / 2 ^ k≤v:=by
 have:(0:Int)<2 ^ k:=Int.pow_pos (by omega);exact ⟨Int.ediv_nonneg h0 (by omega),Int.ediv_le_self _ h0⟩
theorem Zmr {v:Int} {p i:Nat} (h:i<p):(ZhP v p).take (i+1)=(ZhP v p).take i++[decide ((v / 2 ^ (p-1-i)) % 2=1)]:=by
 rw [List.take_add_one]
 congr 1
 simp [ZhP,h]
theorem ZuS {d0:List Int} {n0:Nat} {B:List Bool} {d:List Int} {n:Nat} {v:Int} {p:Nat} (h:Wr d0 n0 B (d,(n:Int))) (hn:n+p≤1700000) (hp:p≤64) (h0:0≤v) (h1:v≤18446744073709551615):∃ x,Zaj (d,(n:Int)) v (p:Int)=some x∧Wr d0 n0 (B++ZhP v p) x:=by
 rw [Zaj];refine Xg (step:=Zam (p:Int) v) (fun m s=>∃ (i:Nat) (d':List Int),s=((i:Int),((n+i:Nat):Int),d')∧i≤p∧Wr d0 n0 (B++(ZhP v p).take i) (d',((n+i:Nat):Int))∧m=p-i) _ ?_ _ _ ⟨0,d,rfl,by omega,by simpa using h,rfl⟩;rintro m s ⟨i,d',rfl,hi,hw,rfl⟩
 by_cases hip:i<p
 ·refine .inl ⟨p-(i+1),(((i+1:Nat):Int),((n+(i+1):Nat):Int),nd d' (n+i) (decide ((v / 2 ^ (p-1-i)) % 2=1))),by omega,?_,i+1,_,rfl,by omega,?_,rfl⟩
  ·have e1:IntKind.i64.wrap ((IntKind.i64.wrap ((p:Int)-1))-(i:Int))=((p-1-i:Nat):Int):=by rw [wi ((p:Int)-1) (by omega),wi _ (by omega)]; omega
   simp only [Zam,if_pos (show (i:Int)<(p:Int) by omega),e1];rw [Zg (by omega),show min (((p-1-i:Nat):Int)).toNat 64=p-1-i by omega,fd h0,and1 (Zft h0 _).1 (by have:=(Zft h0 (p-1-i)).2; omega),ZnC _ hw.vb.1 (by omega),Zb,wS (by omega)];rfl
  ·rw [Zmr hip,← List.append_assoc]
   exact hw.snoc _
 ·refine .inr ⟨(d',((n+i:Nat):Int)),?_,?_⟩
  ·simp only [Zam,if_neg (show ¬ (i:Int)<(p:Int) by omega)]
  ·rwa [List.take_of_length_le (by rw [Zia]; omega)] at hw
theorem Ztr {d0:List Int} {n0:Nat} {B:List Bool} {d:List Int} {n:Nat} {v:Int} {p:Nat} (h:Wr d0 n0 B (d,(n:Int))) (hn:n+p≤1700000) (hp:p≤64) (h0:0≤v) (h1:v≤18446744073709551615):∃ x,Zf (Zac v) (IntKind.i64.wrap ((p:Int)-1),(n:Int),d)=some (x,0)∧Wr d0 n0 (B++ZhP v p) x:=by
 obtain ⟨r,g1,x,rfl,g2⟩:=Xg (step:=Zac v) (fun m s=>∃ (i:Nat) (d':List Int),s=((p:Int)-1-(i:Int),((n+i:Nat):Int),d')∧i≤p∧Wr d0 n0 (B++(ZhP v p).take i) (d',((n+i:Nat):Int))∧m=p-i) (fun r=>∃ x,r=(x,(0:Int))∧Wr d0 n0 (B++ZhP v p) x) (by
  rintro m s ⟨i,d',rfl,hi,hw,rfl⟩
  by_cases hip:i<p
  ·refine .inl ⟨p-(i+1),((p:Int)-1-((i+1:Nat):Int),((n+(i+1):Nat):Int),nd d' (n+i) (decide ((v / 2 ^ (p-1-i)) % 2=1))),by omega,?_,i+1,_,rfl,by omega,?_,rfl⟩
   ·simp only [Zac,if_pos (show (0:Int)≤(p:Int)-1-(i:Int) by omega)]
    rw [Zg (by omega),show min ((p:Int)-1-(i:Int)).toNat 64=p-1-i by omega,fd h0,and1 (Zft h0 _).1 (by have:=(Zft h0 (p-1-i)).2; omega),ZlL _ hw.vb.1 (by omega),Zb,wi _ (by omega)];simp only [show (p:Int)-1-(i:Int)-1=(p:Int)-1-((i+1:Nat):Int) by omega];rfl
   ·rw [Zmr hip,← List.append_assoc]
    exact hw.snoc _
  ·refine .inr ⟨((d',((n+i:Nat):Int)),0),?_,_,rfl,?_⟩
   ·simp only [Zac,if_neg (show ¬ (0:Int)≤(p:Int)-1-(i:Int) by omega),Zc4]
    rfl
   ·rwa [List.take_of_length_le (by rw [Zia]; omega)] at hw) _ (IntKind.i64.wrap ((p:Int)-1),(n:Int),d) ⟨0,d,by rw [wi _ (by omega)]; simp,by omega,by simpa using h,rfl⟩
 exact ⟨x,g1,g2⟩
def ARS (d:List Int) (n:Nat) (v:Int) (p:Nat) (r:(List Int×Int)×Int):Prop :=
 if 65536<v / 2 ^ p∨1600000<n+(v / 2 ^ p).toNat+1+p then r=(([],0),4) else ∃ x,r=(x,0)∧Wr d n (Zh9 v p) x
theorem ZnD {α:Type} (i:Nat) (a:α):List.replicate (i+1) a=List.replicate i a++[a]:=by rw [List.replicate_succ']
theorem Zr4 (d:List Int) (n:Int) (h:d.length≤140737488355328):Zdx (d,n)=some (d,n):=by
 simp only [Zdx];rw [Zg (by omega)];simp
theorem Zwp {d:List Int} {n:Nat} {v:Int} {p:Nat} (h:VB d n) (hn:n≤1600000) (hp:p≤32) (h0:0≤v) (h1:v≤18446744073709551615):∃ r,Zau (d,(n:Int)) v (p:Int)=some r∧ARS d n v p r:=by
 have hlen:=h.len;have hq:=Zft h0 p;have ep:min ((p:Int)).toNat 64=p:=by omega
 rw [Zau,Zpy h hn,Zb,if_neg (by simp),if_neg (by omega),Zg (by omega)];simp only [ep,fd h0];unfold ARS;generalize hqe:v / 2 ^ p=q at hq
 have hcond:(65536<q∨1600000<IntKind.i64.wrap ((IntKind.i64.wrap ((IntKind.i64.wrap ((n:Int)+(IntKind.i64.wrap q)))+1))+(p:Int)))↔(65536<q∨1600000<n+q.toNat+1+p):=by
  by_cases hq6:65536<q
  ·simp [hq6]
  ·rw [wi q (by omega),wi ((n:Int)+q) (by omega),wi ((n:Int)+q+1) (by omega),wi _ (by omega)]
   omega
 by_cases hc:65536<q∨1600000<n+q.toNat+1+p
 ·rw [if_pos (hcond.2 hc)]
  simp only [if_pos hc];exact ⟨_,rfl,rfl⟩
 ·rw [if_neg (fun h=>hc (hcond.1 h)),Zr4 d _ (by omega),Zb]
  simp only [if_neg hc];refine Xg (step:=ZaO v (p:Int)) (fun m s=>∃ (i:Nat) (d':List Int),s=((i:Int),((n+i:Nat):Int),d')∧i≤q.toNat∧Wr d n (List.replicate i true) (d',((n+i:Nat):Int))∧m=q.toNat-i) _ ?_ _ _ ⟨0,d,rfl,by omega,by simpa using Wr.nil h,rfl⟩;rintro m s ⟨i,d',rfl,hi,hw,rfl⟩
  by_cases hiq:i<q.toNat
  ·refine .inl ⟨q.toNat-(i+1),(((i+1:Nat):Int),((n+(i+1):Nat):Int),nd d' (n+i) true),by omega,?_,i+1,_,rfl,by omega,?_,rfl⟩
   ·simp only [ZaO,ep,fd h0,hqe,if_pos (show (i:Int)<q by omega)]
    rw [ZnC _ hw.vb.1 (by omega),Zb,wu _ (by omega)];rfl
   ·rw [ZnD]
    exact hw.snoc _
  ·have e:i=q.toNat:=by omega
   subst e;have hw2:=hw.snoc false;obtain ⟨x,g1,g2⟩:=ZuS (p:=p) hw2 (by omega) (by omega) h0 h1;refine .inr ⟨(x,0),?_,x,rfl,?_⟩
   ·simp only [ZaO,ep,fd h0,hqe,if_neg (show ¬ ((q.toNat:Nat):Int)<q by omega),ZdM]
    rw [ZnC _ hw.vb.1 (by omega),Zb,g1,Zb];rfl
   ·rw [List.append_assoc] at g2
    rw [Zh9,hqe];exact g2
theorem ZnE (d:List Int) (h:d.length≤140737488355328):ZbH [d]=some d:=by
 rw [ZbH,ZM (s' := (1,d)),Yt (r:=d)]
 ·simp [Zeo,Zf5]
 ·simp only [Zeo,List.length_singleton,if_pos (show (0:Int)<((1:Nat):Int) by omega)]
  rw [show (0:Int)=((0:Nat):Int) from rfl,Zt (by simp)];simp only [List.getElem_cons_zero];rw [ZaM (by simpa using h),Zb];rfl
theorem ZuT {d:List Int} {n:Nat} {v:Int} {p:Nat} (h:VB d n) (hn:n≤1600000) (hp:p≤32) (h0:0≤v) (h1:v≤18446744073709551615):∃ r,Zaf (d,(n:Int)) v (p:Int)=some r∧ARS d n v p r:=by
 have hlen:=h.len;have hq:=Zft h0 p;have ep:min ((p:Int)).toNat 64=p:=by omega
 rw [Zaf,ZqF h hn,Zb,if_neg (by simp),if_neg (by omega),Zg (by omega)];simp only [ep,fd h0];unfold ARS;generalize hqe:v / 2 ^ p=q at hq;by_cases hq6:65536<q
 ·rw [if_pos hq6,Zb,if_pos (.inl hq6)]
  simp only [if_pos (show 65536<q∨1600000<n+q.toNat+1+p from .inl hq6)];exact ⟨_,rfl,rfl⟩
 ·rw [if_neg hq6,Zg (by omega),Zb,wi q (by omega),wi ((n:Int)+q) (by omega),wi ((n:Int)+q+1) (by omega),wi _ (by omega)]
  by_cases hc:65536<q∨1600000<n+q.toNat+1+p
  ·rw [if_pos (.inr (by simp; omega))]
   simp only [if_pos hc];exact ⟨_,rfl,rfl⟩
  ·rw [if_neg (by simp; omega),ZnE d (by omega),Zb,Zg (by omega)]
   simp only [if_neg hc];refine Xg (step:=ZaF v (p:Int)) (fun m s=>∃ (i:Nat) (d':List Int),s=(q-(i:Int),((n+i:Nat):Int),d')∧i≤q.toNat∧Wr d n (List.replicate i true) (d',((n+i:Nat):Int))∧m=q.toNat-i) _ ?_ _ _ ⟨0,d,by simp,by omega,by simpa using Wr.nil h,rfl⟩;rintro m s ⟨i,d',rfl,hi,hw,rfl⟩
   by_cases hiq:i<q.toNat
   ·refine .inl ⟨q.toNat-(i+1),(q-((i+1:Nat):Int),((n+(i+1):Nat):Int),nd d' (n+i) true),by omega,?_,i+1,_,rfl,by omega,?_,rfl⟩
    ·simp only [ZaF,if_pos (show (0:Int)<q-(i:Int) by omega)]
     rw [ZlL _ hw.vb.1 (by omega),Zb,wu _ (by omega),show q-(i:Int)-1=q-((i+1:Nat):Int) by omega];rfl
    ·rw [ZnD]
     exact hw.snoc _
   ·have e:i=q.toNat:=by omega
    subst e;have hw2:=hw.snoc false;obtain ⟨x,g1,g2⟩:=Ztr (p:=p) hw2 (by omega) (by omega) h0 h1;refine .inr ⟨(x,0),?_,x,rfl,?_⟩
    ·simp only [ZaF,if_neg (show ¬ (0:Int)<q-((q.toNat:Nat):Int) by omega),Zc5]
     rw [ZlL _ hw.vb.1 (by omega),Zb,g1];rfl
    ·rw [List.append_assoc] at g2
     rw [Zh9,hqe];exact g2
end
section
set_option maxRecDepth 100000
def U64 (l:List Int):Prop:=∀ x∈l,0≤x∧x≤18446744073709551615
def ZnF (l:List Int):Prop:=∀ i (h:i+1<l.length),l[i]≤l[i+1]
theorem Zoa (l:List Int) (hs:l.length<4611686018427387904):∃ b,YM l=some b∧(b=true↔ZnF l):=by
 rw [YM];rcases Nat.eq_zero_or_pos l.length with h0 | h0
 ·refine ⟨true,Yt ?_,by simp; intro i h; omega⟩
  rw [h0];simp only [Yj];rw [if_neg (by decide),Lslices_IsSorted_of__uint64_uint64_k1];rfl
 ·rw [wi _ (by omega),show (l.length:Int)-1=((l.length-1:Nat):Int) by omega]
  refine Xg (step:=Yj l) (fun m s=>∃ i:Nat,s=(i:Int)∧i<l.length∧(∀ j (h:j+1<l.length),i≤j→l[j]≤l[j+1])∧m=i) _ ?_ _ _ ⟨l.length-1,rfl,by omega,fun j h hj=>by omega,rfl⟩;rintro m s ⟨i,rfl,hi,hj,hm⟩
  by_cases hi0:0<i
  ·obtain ⟨i,rfl⟩:∃ k,i=k+1:=⟨i-1,by omega⟩
   have h1:i<l.length:=by omega
   by_cases hl:l[i+1]<l[i]
   ·refine .inr ⟨false,?_,by simp; exact fun h=>by have:=h i hi; omega⟩
    simp only [Yj,if_pos (show (0:Int)<((i+1:Nat):Int) by omega),Zt hi,wP (show i<9223372036854775807 by omega),Zt h1,XA,sB];rw [if_pos (by simp [Go.Sort.ltInt,hl])]
   ·refine .inl ⟨i,(i:Int),by omega,?_,i,rfl,h1,?_,rfl⟩
    ·simp only [Yj,if_pos (show (0:Int)<((i+1:Nat):Int) by omega),Zt hi,wP (show i<9223372036854775807 by omega),Zt h1,XA,sB]
     rw [if_neg (by simp [Go.Sort.ltInt]; omega)]
    ·intro j h hij
     by_cases e:j=i
     ·subst e; omega
     ·exact hj j h (by omega)
  ·refine .inr ⟨true,?_,by simp; exact fun j h=>hj j h (by omega)⟩
   simp only [Yj,if_neg (show ¬ (0:Int)<(i:Int) by omega),Lslices_IsSorted_of__uint64_uint64_k1];rfl
def ZnG (p:Nat):Nat→Int→List Int→Option (List Bool)
 | _,_,[]=>some []
 | n,a,v :: l=>if 65536<(v-a) / 2 ^ p∨1600000<n+((v-a) / 2 ^ p).toNat+1+p then none else (ZnG p (n+((v-a) / 2 ^ p).toNat+1+p) v l).map (Zh9 (v-a) p++·)
def Zpz (a:Int):List Int→Prop
 | []=>True
 | v :: l=>a≤v∧Zpz v l
def ESR (len:Nat) (d0:List Int) (n:Nat) (x:Option (List Bool)) (r:Tapi_Filter×Int):Prop:=match x with
 | none=>r=((0,[]),4)
 | some B=>∃ y,r=(((len:Int),y.1),0)∧Wr d0 n B y
theorem ZnH {AR:Tapi_Bits→Int→Int→Option (Tapi_Bits×Int)} (hAR:∀ (d:List Int) (n:Nat) (v:Int) (p:Nat),VB d n→n≤1600000→p≤32→0≤v→v≤18446744073709551615→∃ r,AR (d,(n:Int)) v (p:Int)=some r∧ARS d n v p r)
  {step:Int×Int×List Int×Int→Option ((Int×Int×List Int×Int) ⊕ (Tapi_Filter×Int))} {l:List Int} {p:Nat} (hp:p≤32) (hl:l.length≤4096) (hu:U64 l)
  (hst:∀ a i d n,step (a,i,d,n)=(if i<(l.length:Int) then (idx l i).bind fun x=>(AR (d,n) (IntKind.u64.wrap (x-a)) (p:Int)).bind fun y=>(if ¬ (y.2=0) then some (.inr (((0,([]:(List Int))),y.2))) else some (.inl (x,IntKind.i64.wrap (i+1),y.1.1,y.1.2))) else some (.inr (((l.length:Int),d),0)))) :
  ∀ (rest:List Int) (i:Nat) (a:Int) (d:List Int) (n:Nat),l.drop i=rest→VB d n→n≤1600000→0≤a→Zpz a rest→∃ r,Zf step (a,(i:Int),d,(n:Int))=some r∧ESR l.length d n (ZnG p n a rest) r:=by
 intro rest;induction rest with
 | nil =>
  intro i a d n hr hv hn ha hc;have hi:l.length≤i:=List.drop_eq_nil_iff.1 hr;refine ⟨(((l.length:Int),d),0),Yt ?_,(d,(n:Int)),rfl,Wr.nil hv⟩;rw [hst,if_neg (by omega)]
 | cons v rest ih =>
  intro i a d n hr hv hn ha hc
  have hi:i<l.length:=by
   rcases Nat.lt_or_ge i l.length with h | h
   ·exact h
   ·rw [List.drop_eq_nil_of_le h] at hr; cases hr
  have hx:l[i]=v∧l.drop (i+1)=rest:=by
   rw [List.drop_eq_getElem_cons hi] at hr;injection hr with h1 h2;exact ⟨h1,h2⟩
  obtain ⟨hx,hr2⟩:=hx;have hvu:=hu v (hx ▸ List.getElem_mem hi);obtain ⟨hav,hc⟩:=hc;obtain ⟨r,h1,h2⟩:=hAR d n (v-a) p hv hn hp (by omega) (by omega)
  have hs:step (a,(i:Int),d,(n:Int))=(if ¬ (r.2=0) then some (.inr (((0,([]:(List Int))),r.2))) else some (.inl (v,((i+1:Nat):Int),r.1.1,r.1.2))):=by
   rw [hst,if_pos (by omega),Zt hi,hx,wu _ (by omega),h1,Zb,wS (by omega)]
  unfold ARS at h2;rw [ZnG];split at h2
  ·rename_i hc2
   subst h2;rw [if_pos hc2];exact ⟨_,Yt (by rw [hs,if_pos (by decide)]),rfl⟩
  ·rename_i hc2
   obtain ⟨y,rfl,hw⟩:=h2;rw [if_neg hc2];rw [if_neg (by simp)] at hs;have e:y=(y.1,((n+(Zh9 (v-a) p).length:Nat):Int)):=by rw [← hw.1]
   have hv2:=hw.2.1;have hlr:=Zn9 (v-a) p;obtain ⟨r,h3,h4⟩:=ih (i+1) v y.1 (n+(Zh9 (v-a) p).length) hr2 hv2 (by omega) (by omega) hc;simp only at hs;rw [hw.1] at hs;refine ⟨r,(ZM hs).trans h3,?_⟩;rw [hlr,show n+(((v-a) / 2 ^ p).toNat+1+p)=n+((v-a) / 2 ^ p).toNat+1+p by omega] at h4;cases hB:ZnG p (n+((v-a) / 2 ^ p).toNat+1+p) v rest with
   | none=>rw [hB] at h4; exact h4
   | some B =>
    rw [hB] at h4;obtain ⟨z,rfl,g1,g2,g3⟩:=h4;refine ⟨z,rfl,?_,?_,?_⟩
    ·rw [g1]; simp; omega
    ·rw [show n+(Zh9 (v-a) p++B).length=n+((v-a) / 2 ^ p).toNat+1+p+B.length by simp; omega]; exact g2
    ·rw [show n+(Zh9 (v-a) p++B).length=n+((v-a) / 2 ^ p).toNat+1+p+B.length by simp; omega,g3,← List.append_assoc]
     congr 1
     have:=hw.2.2
     rwa [hlr,show n+(((v-a) / 2 ^ p).toNat+1+p)=n+((v-a) / 2 ^ p).toNat+1+p by omega] at this
def ER (l:List Int) (p:Int) (r:Tapi_Filter×Int):Prop :=
 (4096<l.length∧r=((0,[]),4))∨(l.length≤4096∧(p<0∨32<p)∧r=((0,[]),5))∨(l.length≤4096∧0≤p∧p≤32∧¬ ZnF l∧r=((0,[]),6))∨(l.length≤4096∧0≤p∧p≤32∧ZnF l∧ESR l.length [] 0 (ZnG p.toNat 0 0 l) r)
theorem ZpA {len:Nat} {d:List Int} {n:Nat} {x:Option (List Bool)} {r r':Tapi_Filter×Int} (h:ESR len d n x r) (h':ESR len d n x r'):r=r' := by
 unfold ESR at h h';cases x with
 | none=>rw [h,h']
 | some B =>
  obtain ⟨y,rfl,h1,h2,h3⟩:=h;obtain ⟨z,rfl,g1,g2,g3⟩:=h';rw [ZuP h2 g2 (h3.trans g3.symm)]
theorem Zms {l:List Int} {p:Int} {r r':Tapi_Filter×Int} (h:ER l p r) (h':ER l p r'):r=r' := by
 unfold ER at h h';rcases h with ⟨a1,rfl⟩ | ⟨a1,a2,rfl⟩ | ⟨a1,a2,a3,a4,rfl⟩ | ⟨a1,a2,a3,a4,a5⟩
 ·rcases h' with ⟨b1,rfl⟩ | ⟨b1,b2,rfl⟩ | ⟨b1,b2,b3,b4,rfl⟩ | ⟨b1,b2,b3,b4,b5⟩ <;> first | rfl | (exfalso; omega)
 ·rcases h' with ⟨b1,rfl⟩ | ⟨b1,b2,rfl⟩ | ⟨b1,b2,b3,b4,rfl⟩ | ⟨b1,b2,b3,b4,b5⟩ <;> first | rfl | (exfalso; omega)
 ·rcases h' with ⟨b1,rfl⟩ | ⟨b1,b2,rfl⟩ | ⟨b1,b2,b3,b4,rfl⟩ | ⟨b1,b2,b3,b4,b5⟩ <;> first | rfl | (exfalso; omega) | exact absurd b4 a4
 ·rcases h' with ⟨b1,rfl⟩ | ⟨b1,b2,rfl⟩ | ⟨b1,b2,b3,b4,rfl⟩ | ⟨b1,b2,b3,b4,b5⟩ <;> first | (exfalso; omega) | exact absurd a4 b4 | exact ZpA a5 b5
theorem VB_nil:VB [] 0:=⟨fun x hx=>absurd hx (by simp),rfl,fun i _=>by simp [bt,bb]⟩
theorem asc_chain:∀ (l:List Int) (a:Int),(∀ h:0<l.length,a≤l[0])→ZnF l→Zpz a l
 | [],a,_,_=>trivial
 | v :: l,a,h,hl=>⟨h (by simp),asc_chain l v (fun h0=>hl 0 (by simpa using h0)) fun i hi=>hl (i+1) (by simpa using hi)⟩
theorem ZqG (l:List Int) (p:Int) (hu:U64 l) (hs:l.length<4611686018427387904):∃ r,ZaZ l p=some r∧ER l p r:=by
 rw [ZaZ];by_cases h1:4096<l.length
 ·rw [if_pos (by omega)]
  exact ⟨_,rfl,.inl ⟨h1,rfl⟩⟩
 ·rw [if_neg (by omega)]
  by_cases h2:p<0∨32<p
  ·rw [if_pos h2]
   exact ⟨_,rfl,.inr (.inl ⟨by omega,h2,rfl⟩)⟩
  ·rw [if_neg h2]
   obtain ⟨b,hb,hb2⟩:=Zoa l hs;rw [hb,Zb];by_cases h3:b=true
   ·rw [if_neg (by simp [h3])]
    obtain ⟨q,rfl⟩:∃ q:Nat,p=(q:Int):=⟨p.toNat,by omega⟩
    obtain ⟨r,g1,g2⟩:=ZnH (AR:=Zau) (fun d n v p h1 h2 h3 h4 h5=>Zwp h1 h2 h3 h4 h5) (step:=ZcG l (q:Int)) (l:=l) (p:=q) (by omega) (by omega) hu (fun a i d n=>by rw [ZcG,ZeB]; rfl) l 0 0 [] 0 rfl VB_nil (by omega) (by omega) (asc_chain l 0 (fun h=>(hu _ (List.getElem_mem h)).1) (hb2.1 h3));exact ⟨r,g1,.inr (.inr (.inr ⟨by omega,by omega,by omega,hb2.1 h3,by simpa using g2⟩))⟩
   ·rw [if_pos h3]
    exact ⟨_,rfl,.inr (.inr (.inl ⟨by omega,by omega,by omega,fun h=>h3 (hb2.2 h),rfl⟩))⟩
theorem ZpB (l:List Int) (p:Int) (hu:U64 l) (hs:l.length<4611686018427387904):∃ r,Zbw l p=some r∧ER l p r:=by
 rw [Zbw];by_cases h1:4096<l.length
 ·rw [if_pos (by omega)]
  exact ⟨_,rfl,.inl ⟨h1,rfl⟩⟩
 ·rw [if_neg (by omega)]
  by_cases h2:p<0∨32<p
  ·rw [if_pos h2]
   exact ⟨_,rfl,.inr (.inl ⟨by omega,h2,rfl⟩)⟩
  ·rw [if_neg h2]
   obtain ⟨q,rfl⟩:∃ q:Nat,p=(q:Int):=⟨p.toNat,by omega⟩
   refine Xg (step:=Za3 l (q:Int)) (fun m s=>∃ i:Nat,s=((i+1:Nat):Int)∧i≤l.length∧(∀ j (h:j+1<l.length),j<i→l[j]≤l[j+1])∧m=l.length-i) _ ?_ _ _ ⟨0,rfl,by omega,fun j h hj=>by omega,rfl⟩;rintro m s ⟨i,rfl,hi,hj,rfl⟩
   by_cases hil:i+1<l.length
   ·have h0:i<l.length:=by omega
    by_cases hx:l[i+1]<l[i]
    ·refine .inr ⟨((0,[]),6),?_,.inr (.inr (.inl ⟨by omega,by omega,by omega,fun h=>by have:=h i hil; omega,rfl⟩))⟩
     simp only [Za3,if_pos (show ((i+1:Nat):Int)<(l.length:Int) by omega),wP (show i<9223372036854775807 by omega),Zt h0,Zt hil,if_pos hx]
    ·refine .inl ⟨l.length-(i+1),((i+1+1:Nat):Int),by omega,?_,i+1,rfl,by omega,?_,rfl⟩
     ·simp only [Za3,if_pos (show ((i+1:Nat):Int)<(l.length:Int) by omega),wP (show i<9223372036854775807 by omega),Zt h0,Zt hil,if_neg hx,wS (show i+1<9223372036854775807 by omega)]
     ·intro j h hji
      by_cases e:j=i
      ·subst e; omega
      ·exact hj j h (by omega)
   ·have hasc:ZnF l:=fun j h=>hj j h (by omega)
    obtain ⟨r,g1,g2⟩:=ZnH (AR:=Zaf) (fun d n v p h1 h2 h3 h4 h5=>ZuT h1 h2 h3 h4 h5) (step:=Zc6 l (q:Int)) (l:=l) (p:=q) (by omega) (by omega) hu (fun a i d n=>by rw [Zc6,Zfi]; rfl) l 0 0 [] 0 rfl VB_nil (by omega) (by omega) (asc_chain l 0 (fun h=>(hu _ (List.getElem_mem h)).1) hasc);refine .inr ⟨r,?_,.inr (.inr (.inr ⟨by omega,by omega,by omega,hasc,by simpa using g2⟩))⟩;simp only [Za3,if_neg (show ¬ ((i+1:Nat):Int)<(l.length:Int) by omega),Zfj];rw [show ((0:Nat):Int)=0 from rfl] at g1;rw [g1];rfl
theorem ZnI (l:List Int) (p:Int) (hu:U64 l) (hs:l.length<4611686018427387904):∃ r,ZaZ l p=some r∧Zbw l p=some r∧ER l p r:=by
 obtain ⟨r,h1,h2⟩:=ZqG l p hu hs;obtain ⟨r',h3,h4⟩:=ZpB l p hu hs;exact ⟨r,h1,by rw [h3,Zms h4 h2],h2⟩
theorem ZqH (f:Tapi_Filter):Zdz f f=some true:=by simp [Zdz,Zba]
end
section
set_option maxRecDepth 100000
theorem ZkQ (x:Int):0≤IntKind.u64.wrap x∧IntKind.u64.wrap x≤18446744073709551615:=by
 simp [IntKind.wrap,IntKind.signed,IntKind.bits]
 omega
theorem Zr5 (op:BinOp) (x y:Int):0≤bits op .u64 x y∧bits op .u64 x y≤18446744073709551615:=ZkQ _
def rt (a0 a1:Int):Int:=bits .or .u64 (IntKind.u64.wrap (a0 * (2 ^ (min (bits .and .u64 (IntKind.u64.wrap (a1)) 63).toNat 64)))) ((a0).fdiv (2 ^ (min (IntKind.u64.wrap (64-(bits .and .u64 (IntKind.u64.wrap (a1)) 63))).toNat 64)))
theorem Zsp (a b:Int):ZI a b=some (rt a b):=by
 have h1:=Zr5 .and (IntKind.u64.wrap b) 63;have h2:=ZkQ (64-(bits .and .u64 (IntKind.u64.wrap b) 63));rw [ZI,Zg (by omega),Zg (by omega)];rfl
def q4 (a b c d:Int):Arr 4:=⟨[a,b,c,d],rfl⟩
theorem ZqI (v:Arr 4):∃ a b c d,v=q4 a b c d:=by
 obtain ⟨l,hl⟩:=v
 match l,hl with
 | [a,b,c,d],_=>exact ⟨a,b,c,d,rfl⟩
section
variable {a b c d x:Int}
theorem q4p0:(q4 a b c d).put 0 x=q4 x b c d:=rfl
theorem q4p1:(q4 a b c d).put 1 x=q4 a x c d:=rfl
theorem q4p2:(q4 a b c d).put 2 x=q4 a b x d:=rfl
theorem q4p3:(q4 a b c d).put 3 x=q4 a b c x:=rfl
theorem q4a0:(q4 a b c d).at 0=a:=rfl
theorem q4a1:(q4 a b c d).at 1=b:=rfl
theorem q4a2:(q4 a b c d).at 2=c:=rfl
theorem q4a3:(q4 a b c d).at 3=d:=rfl
end
def ZnJ (v:Arr 4):Arr 4 :=
 let a1:=IntKind.u64.wrap (v.at 0+v.at 1)
 let b1:=bits .xor .u64 (rt (v.at 1) 13) a1
 let c1:=IntKind.u64.wrap (v.at 2+v.at 3)
 let d1:=bits .xor .u64 (rt (v.at 3) 16) c1
 let a3:=IntKind.u64.wrap (rt a1 32+d1)
 let c2:=IntKind.u64.wrap (c1+b1)
 q4 a3 (bits .xor .u64 (rt b1 17) c2) (rt c2 32) (bits .xor .u64 (rt d1 21) a3)
theorem Zfu (v:Arr 4):X6 v=some (ZnJ v):=by
 obtain ⟨a,b,c,d,rfl⟩:=ZqI v;simp only [X6,Zsp,Zb,q4p0,q4p1,q4p2,q4p3,q4a0,q4a1,q4a2,q4a3,ZnJ]
def rndN:Nat→Arr 4→Arr 4
 | 0,v=>v
 | n+1,v=>rndN n (ZnJ v)
theorem Zob (n:Nat) (hn:n<100):∀ (k i:Nat) (v:Arr 4),n-i=k→i≤n→Zf (ZcL (n:Int)) ((i:Int),v)=some (rndN k v):=by
 intro k;induction k with
 | zero =>
  intro i v h hi;refine Yt ?_;simp only [ZcL,if_neg (show ¬ (i:Int)<(n:Int) by omega),Zf3];rfl
 | succ k ih =>
  intro i v h hi;rw [rndN,← ih (i+1) (ZnJ v) (by omega) (by omega)];refine ZM ?_;obtain ⟨a,b,c,d,rfl⟩:=ZqI v;simp only [ZcL,if_pos (show (i:Int)<(n:Int) by omega),Zsp,Zb,q4p0,q4p1,q4p2,q4p3,q4a0,q4a1,q4a2,q4a3,ZnJ,wS (show i<9223372036854775807 by omega)]
theorem Zmt (n:Nat) (hn:n<100) (v:Arr 4):Zdy v (n:Int)=some (rndN n v):=Zob n hn n 0 v (by omega) (by omega)
def ZnK (v:Arr 4) (m:Int):Arr 4 :=
 let w:=rndN 2 (v.put 3 (bits .xor .u64 (v.at 3) m))
 w.put 0 (bits .xor .u64 (w.at 0) m)
theorem Zmu (v:Arr 4) (m:Int):ZcB v m=some (ZnK v m):=by
 rw [ZcB,show (2:Int)=((2:Nat):Int) from rfl,Zmt 2 (by omega),Zb];rfl
theorem Zlo (v:Arr 4) (m:Int):Zao v m=some (ZnK v m):=by
 rw [Zao,Zfu,Zb,Zfu,Zb];rfl
theorem ZhX (l:List Int):ZbI l=ZaK l:=rfl
theorem Zr6 (l:List Int) (h:l.length≤100000):∃ w,ZaK l=some w:=by
 rw [ZaK]
 obtain ⟨r,h1,_⟩:=Xg (step:=Zd0 l) (fun m s=>∃ (w:Int) (i:Nat),s=(w,(i:Int))∧i≤l.length∧m=l.length-i) (fun _=>True) (by
  rintro m s ⟨w,i,rfl,hi,rfl⟩
  by_cases hil:i<l.length
  ·refine .inl ⟨l.length-(i+1),(bits .or .u64 w (IntKind.u64.wrap ((IntKind.u64.wrap l[i]) * (2 ^ (min (IntKind.i64.wrap (8 * (i:Int))).toNat 64)))),((i+1:Nat):Int)),by omega,?_,_,i+1,rfl,by omega,rfl⟩
   ·simp only [Zd0,if_pos (show (i:Int)<(l.length:Int) by omega)]
    rw [Zt hil,Zg (by rw [wi _ (by omega)]; omega),wS (by omega)]
  ·refine .inr ⟨w,?_,trivial⟩
   simp only [Zd0,if_neg (show ¬ (i:Int)<(l.length:Int) by omega),ZhE]
   rfl) _ (0,0) ⟨0,0,rfl,by omega,rfl⟩
 exact ⟨r,h1⟩
noncomputable def wdv (l:List Int):Int:=(ZaK l).getD 0
theorem Zfv (l:List Int) (h:l.length≤100000):ZaK l=some (wdv l):=by
 obtain ⟨w,hw⟩:=Zr6 l h;rw [wdv,hw];rfl
noncomputable def sumE (l:List Int) (v:Arr 4) (t:List Int):Int :=
 let w:=ZnK v (bits .or .u64 (wdv t) (IntKind.u64.wrap ((IntKind.u64.wrap (((l.length:Int)).tmod 256)) * 72057594037927936)))
 let z:=rndN 4 (w.put 2 (bits .xor .u64 (w.at 2) 255))
 bits .xor .u64 (bits .xor .u64 (bits .xor .u64 (z.at 0) (z.at 1)) (z.at 2)) (z.at 3)
noncomputable def ZlM (l:List Int):Nat→Arr 4→List Int→Int
 | 0,v,t=>sumE l v t
 | n+1,v,t=>ZlM l n (ZnK v (wdv (t.take 8))) (t.drop 8)
theorem Zr7 (l:List Int) (hl:l.length≤100000):∀ (n i:Nat) (v:Arr 4),l.length / 8-i=n→i≤l.length / 8→Zf (ZeN l) ((i:Int),v)=some (ZlM l n v (l.drop (8 * i))):=by
 have e8:IntKind.i64.wrap (((l.length:Int)).tdiv 8)=((l.length / 8:Nat):Int):=by rw [Zln,wI _ (by omega)]
 intro n;induction n with
 | zero =>
  intro i v h hi;have e:i=l.length / 8:=by omega
  subst e;have e3:IntKind.i64.wrap (8 * ((l.length / 8:Nat):Int))=((8 * (l.length / 8):Nat):Int):=by rw [wi _ (by omega)]; omega
  refine Yv ?_;simp only [ZeN,e8,if_neg (show ¬ ((l.length / 8:Nat):Int)<((l.length / 8:Nat):Int) by omega),Zh5,e3];rw [Zg (by omega),show (((8 * (l.length / 8):Nat):Int)).toNat=8 * (l.length / 8) by omega,Zfv _ (by simp; omega),Zb,Zmu,Zb,show (4:Int)=((4:Nat):Int) from rfl,Zmt 4 (by omega),Zb];rfl
 | succ n ih =>
  intro i v h hi;have e3:IntKind.i64.wrap (8 * (i:Int))=((8 * i:Nat):Int):=by rw [wi _ (by omega)]; omega
  have e4:IntKind.i64.wrap (((8 * i:Nat):Int)+8)=((8 * i+8:Nat):Int):=by rw [wi _ (by omega)]; omega
  have:=ih (i+1) (ZnK v (wdv ((l.drop (8 * i)).take 8))) (by omega) (by omega);rw [ZlM,List.drop_drop,show 8 * i+8=8 * (i+1) by omega,← this];refine ZM ?_;simp only [ZeN,e8,if_pos (show (i:Int)<((l.length / 8:Nat):Int) by omega),e3,e4];rw [Zg (by omega),show (((8 * i+8:Nat):Int)).toNat=8 * i+8 by omega,show (((8 * i:Nat):Int)).toNat=8 * i by omega,List.drop_take,show 8 * i+8-8 * i=8 by omega,Zfv _ (by simp; omega),Zb,Zmu,Zb,wS (by omega)]
theorem ZqJ (l:List Int) (hl:l.length≤100000):∀ (n:Nat) (t:List Int) (v:Arr 4),t.length / 8=n→t.length≤l.length→Zf (Zdl l) (t,v)=some (ZlM l n v t):=by
 intro n;induction n with
 | zero =>
  intro t v h ht;refine Yv ?_;simp only [Zdl,if_neg (show ¬ (8:Int)≤(t.length:Int) by omega),ZgR];rw [ZhX,Zfv _ (by omega),Zb,Zlo,Zb,Zfu,Zb,Zfu,Zb,Zfu,Zb,Zfu,Zb];rfl
 | succ n ih =>
  intro t v h ht;rw [ZlM,← ih (t.drop 8) _ (by simp; omega) (by simp; omega)];refine ZM ?_;simp only [Zdl,if_pos (show (8:Int)≤(t.length:Int) by omega)];rw [Zg (by omega),ZhX,Zfv _ (by simp; omega),Zb,Zlo,Zb,Zg (by omega)]
noncomputable def Zr8 (k:Arr 2) (l:List Int):Int:=ZlM l (l.length / 8) (((((zA 4).put 0 (bits .xor .u64 (k.at 0) 8317987319222330741)).put 1 (bits .xor .u64 (k.at 1) 7237128888997146477)).put 2 (bits .xor .u64 (k.at 0) 7816392313619706465)).put 3 (bits .xor .u64 (k.at 1) 8387220255154660723)) l
theorem ZuU (k:Arr 2) (l:List Int) (hl:l.length≤100000):Zf4 k l=some (Zr8 k l):=by
 have:=Zr7 l hl (l.length / 8) 0 (((((zA 4).put 0 (bits .xor .u64 (k.at 0) 8317987319222330741)).put 1 (bits .xor .u64 (k.at 1) 7237128888997146477)).put 2 (bits .xor .u64 (k.at 0) 7816392313619706465)).put 3 (bits .xor .u64 (k.at 1) 8387220255154660723)) (by omega) (by omega);rw [Zf4,show (0:Int)=((0:Nat):Int) from rfl,this];rfl
theorem Zts (k:Arr 2) (l:List Int) (hl:l.length≤100000):Zc7 k l=some (Zr8 k l):=ZqJ l hl _ l _ rfl (Nat.le_refl _)
noncomputable def scl (h n:Int):Int:=((Za0 h n).map (·.1)).getD 0
theorem Zr9 (h n:Int):ZfG h n=some (scl h n):=rfl
theorem ZqK (h n:Int):Zd1 h n=some (scl h n):=rfl
theorem ZqL (h n:Int):0≤scl h n∧scl h n≤18446744073709551615:=ZkQ _
noncomputable def ZhQ (k:Arr 2) (n m:Int) (x:List Int):Int:=scl (Zr8 k x) (IntKind.u64.wrap ((IntKind.u64.wrap n) * m))
theorem ZqM (k:Arr 2) (x:List Int) (n m:Int) (hx:x.length≤100000):Zbi k x n m=some (ZhQ k n m x):=by
 rw [Zbi,Zts k x hx,Zb,ZqK,Zb];rfl
theorem ZoB (k:Arr 2) (n m:Int) (l:List (List Int)):U64 (l.map (ZhQ k n m)):=by
 intro x hx;obtain ⟨y,_,rfl⟩:=List.mem_map.1 hx;exact ZqL _ _
end
section
set_option maxRecDepth 100000
theorem ZpC {K V:Type} [DecidableEq K] (k a:K) (v:V) (l:List (K×V)):ZfE k (ZfF a v l)=if k=a then some v else ZfE k l:=by
 induction l with
 | nil=>simp [ZfF,ZfE]
 | cons x l ih =>
  obtain ⟨b,w⟩:=x;by_cases h1:a=b
  ·subst h1
   by_cases h2:k=a <;> simp [ZfF,ZfE,h2]
  ·by_cases h2:k=b
   ·subst h2
    simp [ZfF,ZfE,h1,Ne.symm h1]
   ·simp [ZfF,ZfE,h1,h2,ih]
theorem Zmv {a b:List Int} (ha:Byt a) (hb:Byt b) (h:ZcZ a=ZcZ b):a=b:=by
 have h1:a.map (fun n=>UInt8.ofNat n.toNat)=b.map (fun n=>UInt8.ofNat n.toNat):=by
  have:=congrArg (fun s:ByteArray=>s.data.toList) h;simpa [ZcZ] using this
 have hl:a.length=b.length:=by simpa using congrArg List.length h1
 apply List.ext_getElem hl
 intro i h2 h3;have h4:=congrArg (fun l=>l[i]?) h1;simp only [List.getElem?_map,List.getElem?_eq_getElem h2,List.getElem?_eq_getElem h3,Option.map_some,Option.some.injEq] at h4;have g1:=ha _ (List.getElem_mem h2);have g2:=hb _ (List.getElem_mem h3);have h5:=congrArg UInt8.toNat h4;simp only [UInt8.toNat_ofNat'] at h5;omega
theorem ZnL {a b:List Int} (ha:Byt a) (hb:Byt b):Zba a b=some (decide (a=b)):=by
 rw [Zba]
 congr 1
 by_cases h:a=b
 ·simp [h]
 ·have h2:¬ ZcZ a=ZcZ b:=fun e=>h (Zmv ha hb e)
  simp [h,h2]
def Zhe (l:List (List Int)):Prop:=∀ x∈l,Byt x∧x.length≤100000
theorem Zi7 (l:List Int):(srt l).Perm l:=List.mergeSort_perm _ _
theorem ZoC {l:List Int} (h:U64 l):U64 (srt l):=fun x hx=>h x ((Zi7 l).mem_iff.1 hx)
theorem ZkR (l:List Int):(srt l).Pairwise (·≤·):=by
 have:=List.pairwise_mergeSort (le:=fun x y:Int=>decide (x≤y)) (fun a b c h1 h2=>by simp at *; omega) (fun a b=>by simp; omega) l;exact this.imp (fun h=>by simpa using h)
theorem ZqN {l l':List Int} (hp:l'.Perm l) (hs:l'.Pairwise (·≤·)):l'=srt l :=
 List.Perm.eq_of_pairwise (le:=(·≤·)) (fun a b _ _ h1 h2=>Int.le_antisymm h1 h2) hs (ZkR l) (hp.trans (Zi7 l).symm)
theorem Zjh {α β:Type} (f:α→β) (l:List α) (i:Nat) (h:i<l.length):(l.take (i+1)).map f=(l.take i).map f++[f l[i]]:=by
 rw [List.take_succ_eq_append_getElem h,List.map_append];rfl
theorem ZqO (k:Arr 2) (l:List (List Int)) (n m:Int) (hi:Zhe l) (hl:l.length≤100000):ZbO k l n m=some (srt (l.map (ZhQ k n m))):=by
 rw [ZbO]
 obtain ⟨r,h1,rfl⟩:=Xg (step:=ZbB l k n m) (fun q s=>∃ i:Nat,s=((i:Int),(l.take i).map (ZhQ k n m))∧i≤l.length∧q=l.length-i) (fun r=>r=srt (l.map (ZhQ k n m))) (by
  rintro q s ⟨i,rfl,hil,rfl⟩
  by_cases h:i<l.length
  ·refine .inl ⟨l.length-(i+1),(((i+1:Nat):Int),(l.take (i+1)).map (ZhQ k n m)),by omega,?_,i+1,rfl,by omega,rfl⟩
   simp only [ZbB,if_pos (show (i:Int)<(l.length:Int) by omega)];rw [Zt h,ZuU k _ (hi _ (List.getElem_mem h)).2,Zb,Zr9,Zb,Zg (by simp; omega),wS (by omega),Zjh _ _ _ h];rfl
  ·refine .inr ⟨_,?_,rfl⟩
   simp only [ZbB,if_neg (show ¬ (i:Int)<(l.length:Int) by omega),ZeC];rw [List.take_of_length_le (by omega),Zto _ (by simp; omega),Zb,Zg (Zex _)]
   rfl) _ (0,[]) ⟨0,rfl,by omega,rfl⟩
 exact h1
theorem merge_loop:∀ (n:Nat) (a b out:List Int),a.length+b.length=n→out.length+a.length+b.length≤1000000→a.Pairwise (·≤·)→b.Pairwise (·≤·)→∃ r,Zf Lref19_sorted_s1 (a,b,out)=some (out++r)∧r.Perm (a++b)∧r.Pairwise (·≤·):=by
 intro n;induction n with
 | zero =>
  intro a b out h hn ha hb;obtain rfl:a=[]:=List.length_eq_zero_iff.1 (by omega);obtain rfl:b=[]:=List.length_eq_zero_iff.1 (by omega);refine ⟨[],Yt ?_,List.Perm.refl _,List.Pairwise.nil⟩;have ho:out.length≤1000000:=by simpa using hn
  simp only [Lref19_sorted_s1,Zaw,List.length_nil];rw [if_neg (by omega),Zg (by omega),Zg (by omega)];simp
 | succ n ih =>
  intro a b out h hn ha hb
  match a,b with
  | [],b =>
   refine ⟨b,Yt ?_,List.Perm.refl _,hb⟩;simp only [Lref19_sorted_s1,List.length_nil,Zaw];rw [if_neg (by omega),Zg (by simp at hn; omega),Zg (by simp at hn; omega)];simp
  | x :: a,[] =>
   refine ⟨x :: a,Yt ?_,by simp,ha⟩;simp only [Lref19_sorted_s1,List.length_nil,Zaw];rw [if_neg (by omega),Zg (by simp at hn ⊢; omega),Zg (by simp at hn ⊢; omega)];simp
  | x :: a,y :: b =>
   simp only [List.length_cons] at h hn;obtain ⟨hxa,ha'⟩:=List.pairwise_cons.1 ha;obtain ⟨hyb,hb'⟩:=List.pairwise_cons.1 hb;by_cases hxy:x≤y
   ·obtain ⟨r,h1,h2,h3⟩:=ih a (y :: b) (out++[x]) (by simp; omega) (by simp; omega) ha' hb
    refine ⟨x :: r,?_,by simpa using h2,?_⟩
    ·rw [ZM (s' := (a,y :: b,out++[x])),h1]
     ·simp
     ·simp only [Lref19_sorted_s1,List.length_cons]
      rw [if_pos (by omega)];simp only [List.getElem?_cons_zero,Zb,if_pos hxy];rw [Zg (by omega),Zg (by omega)];rfl
    ·refine List.pairwise_cons.2 ⟨fun z hz=>?_,h3⟩
     rcases List.mem_append.1 (h2.mem_iff.1 hz) with h | h
     ·exact hxa z h
     ·rcases List.mem_cons.1 h with rfl | h
      ·exact hxy
      ·exact Int.le_trans hxy (hyb z h)
   ·obtain ⟨r,h1,h2,h3⟩:=ih (x :: a) b (out++[y]) (by simp; omega) (by simp; omega) ha hb'
    refine ⟨y :: r,?_,?_,?_⟩
    ·rw [ZM (s' := (x :: a,b,out++[y])),h1]
     ·simp
     ·simp only [Lref19_sorted_s1,List.length_cons]
      rw [if_pos (by omega)];simp only [List.getElem?_cons_zero,Zb,if_neg hxy];rw [Zg (by omega),Zg (by omega)];rfl
    ·exact (h2.cons y).trans List.perm_middle.symm
    ·refine List.pairwise_cons.2 ⟨fun z hz=>?_,h3⟩
     rcases List.mem_append.1 (h2.mem_iff.1 hz) with h | h
     ·rcases List.mem_cons.1 h with rfl | h
      ·omega
      ·exact Int.le_trans (by omega) (hxa z h)
     ·exact hyb z h
theorem rsorted_n:∀ (n:Nat) (l:List Int),l.length<n→l.length≤1000000→Lref19_sorted_n n l=some (srt l):=by
 intro n;induction n with
 | zero=>intro l h; omega
 | succ n ih =>
  intro l h hl;rw [Lref19_sorted_n,Zcp];by_cases h2:l.length<2
  ·rw [if_pos (by omega)]
   congr 1
   refine ZqN (List.Perm.refl _) ?_
   match l,h2 with
   | [],_=>exact List.Pairwise.nil
   | [x],_=>simp
  ·have e:IntKind.i64.wrap (((l.length:Int)).tdiv 2)=((l.length / 2:Nat):Int):=by
    rw [Int.tdiv_eq_ediv_of_nonneg (by omega),wi _ (by omega)]; omega
   rw [if_neg (by omega),e,Zg (by omega),show (((l.length / 2:Nat):Int)).toNat=l.length / 2 by omega,ih _ (by simp; omega) (by simp; omega),Zb,Zg (by omega),ih _ (by simp; omega) (by simp; omega),Zb];obtain ⟨r,h1,h2,h3⟩:=merge_loop _ (srt (l.take (l.length / 2))) (srt (l.drop (l.length / 2))) [] rfl (by simp [Zex]; omega) (ZkR _) (ZkR _);rw [h1,List.nil_append]
   congr 1
   refine ZqN ?_ h3;refine h2.trans (((Zi7 _).append (Zi7 _)).trans ?_);rw [List.take_append_drop]
theorem rsorted_more:∀ (n k:Nat) (l x:List Int),Lref19_sorted_n n l=some x→Lref19_sorted_n (n+k) l=some x:=by
 intro n;induction n with
 | zero=>intro k l x h; simp [Lref19_sorted_n] at h
 | succ n ih =>
  intro k l x h;rw [show n+1+k=n+k+1 by omega];rw [Lref19_sorted_n,Zcp] at h ⊢;split
  ·rename_i g
   rw [if_pos g] at h;exact h
  ·rename_i g
   rw [if_neg g] at h;refine Zew h fun _ h=>?_
   cases h1:Lref19_sorted_n n (l.take ((IntKind.i64.wrap (((l.length:Int)).tdiv 2)).toNat)) with
   | none=>rw [h1] at h; cases h
   | some y =>
    rw [h1] at h;rw [ih k _ _ h1];refine Zew (x:=some y) h fun y2 h=>Zew h fun _ h=>?_
    cases h2:Lref19_sorted_n n (l.drop ((IntKind.i64.wrap (((l.length:Int)).tdiv 2)).toNat)) with
    | none=>rw [h2] at h; cases h
    | some z =>
     rw [h2] at h;rw [ih k _ _ h2];exact h
theorem ZpD (l:List Int) (hl:l.length≤1000000):ZeX l=some (srt l) :=
 Zmq (g:=fun n=>Lref19_sorted_n n l) (fun n k x h=>rsorted_more n k l x h) (rsorted_n (l.length+1) l (by omega) hl)
def dfs (acc:List (List Int)):List (List Int)→List (List Int)
 | []=>acc
 | x :: l=>if x∈acc then dfs acc l else dfs (acc++[x]) l
theorem dfs_snoc:∀ (l acc:List (List Int)) (x:List Int),dfs acc (l++[x])=if x∈dfs acc l then dfs acc l else dfs acc l++[x]
 | [],acc,x=>by by_cases h:x∈acc <;> simp [dfs,h]
 | y :: l,acc,x=>by
  simp only [List.cons_append,dfs];split <;> exact dfs_snoc l _ x
theorem dfs_mem:∀ (l acc:List (List Int)) (x:List Int),x∈dfs acc l↔x∈acc∨x∈l
 | [],acc,x=>by simp [dfs]
 | y :: l,acc,x=>by
  simp only [dfs];split
  ·rename_i h
   rw [dfs_mem l acc x];simp only [List.mem_cons];constructor
   ·rintro (h | h) <;> simp [h]
   ·rintro (h1 | rfl | h1) <;> simp [*]
  ·rw [dfs_mem l _ x]
   simp [or_assoc]
theorem dfs_len:∀ (l acc:List (List Int)),(dfs acc l).length≤acc.length+l.length
 | [],acc=>by simp [dfs]
 | y :: l,acc=>by
  simp only [dfs];split
  ·have:=dfs_len l acc; simp; omega
  ·have:=dfs_len l (acc++[y]); simp at this ⊢; omega
theorem Zd8 {α:Type} (l:List α) (i:Nat) (h:i<l.length):l.take (i+1)=l.take i++[l[i]]:=List.take_succ_eq_append_getElem h
theorem Zsa (l:List (List Int)) (hi:Zhe l) (hl:l.length≤100000):X5 l=some (dfs [] l):=by
 rw [X5]
 obtain ⟨r,h1,rfl⟩:=Xg (step:=ZaQ l) (fun q s=>∃ i:Nat,s=((i:Int),dfs [] (l.take i))∧i≤l.length∧q=l.length-i) (fun r=>r=dfs [] l) (by
  rintro q s ⟨i,rfl,hil,rfl⟩
  by_cases h:i<l.length
  ·refine .inl ⟨l.length-(i+1),(((i+1:Nat):Int),dfs [] (l.take (i+1))),by omega,?_,i+1,rfl,by omega,rfl⟩
   simp only [ZaQ,if_pos (show (i:Int)<(l.length:Int) by omega)];rw [Zt h,Zg (by omega)];have hx:=(hi _ (List.getElem_mem h)).1
   obtain ⟨r,g1,g2⟩:=Xg (step:=ZaP l (i:Int) l[i] (dfs [] (l.take i))) (fun q s=>∃ j:Nat,s=(decide (l[i]∈(l.take i).take j),(j:Int))∧j≤i∧q=i-j) (fun r=>r = .inl (((i+1:Nat):Int),dfs [] (l.take (i+1)))) (by
    rintro q s ⟨j,rfl,hj,rfl⟩
    have hn:((i:Int)).toNat=i:=by omega
    have hlen:(l.take i).length=i:=by simp; omega
    by_cases hji:j<i
    ·have hjl:j<(l.take i).length:=by omega
     refine .inl ⟨i-(j+1),(decide (l[i]∈(l.take i).take (j+1)),((j+1:Nat):Int)),by omega,?_,j+1,rfl,by omega,rfl⟩;have hy:=(hi _ (List.mem_of_mem_take (List.getElem_mem hjl))).1;simp only [ZaP,hn,if_pos (show (j:Int)<((l.take i).length:Int) by omega)];rw [Zt hjl,Zd8 _ _ hjl,ZnL hx hy,Zb];by_cases hm:l[i]∈(l.take i).take j
     ·simp only [hm,decide_true,if_true,Zb,Bool.or_false]
      rw [wS (by omega)];simp [hm]
     ·simp only [hm,decide_false,Bool.false_eq_true,if_false,Zb,Bool.false_or]
      rw [wS (by omega)];simp [hm]
    ·refine .inr ⟨_,?_,rfl⟩
     simp only [ZaP,hn,if_neg (show ¬ (j:Int)<((l.take i).length:Int) by omega),ZdO,Zak];rw [List.take_of_length_le (by omega),Zd8 _ _ h,dfs_snoc];have hm:=dfs_mem (l.take i) [] l[i];have hdl:=dfs_len (l.take i) [];by_cases hq:l[i]∈l.take i
     ·rw [if_neg (by simp [hq]),if_pos (hm.2 (.inr hq)),wS (by omega)]
      rfl
     ·rw [if_pos (by simp [hq]),Zg (by simp at hdl; omega),if_neg (fun e=>hq (by simpa using hm.1 e)),wS (by omega)]
      rfl) _ (false,0) ⟨0,by simp,by omega,rfl⟩
   rw [g1,g2]
  ·refine .inr ⟨_,?_,rfl⟩
   simp only [ZaQ,if_neg (show ¬ (i:Int)<(l.length:Int) by omega),ZdN];rw [List.take_of_length_le (by omega)]
   rfl) _ (0,[]) ⟨0,rfl,by omega,rfl⟩
 exact h1
def BR (k:Arr 2) (l:List (List Int)) (p m:Int) (r:Tapi_Filter×Int):Prop :=
 (4096<l.length∧r=((0,[]),4))∨(l.length≤4096∧(((m<1∨1099511627776<m)∨p<0)∨32<p)∧r=((0,[]),5))∨(l.length≤4096∧¬ (((m<1∨1099511627776<m)∨p<0)∨32<p)∧ER (srt ((dfs [] l).map (ZhQ k ((dfs [] l).length:Int) m))) p r)
theorem ZqP {k:Arr 2} {l:List (List Int)} {p m:Int} {r r':Tapi_Filter×Int} (h:BR k l p m r) (h':BR k l p m r'):r=r' := by
 unfold BR at h h';rcases h with ⟨a1,rfl⟩ | ⟨a1,a2,rfl⟩ | ⟨a1,a2,a3⟩
 ·rcases h' with ⟨b1,rfl⟩ | ⟨b1,b2,rfl⟩ | ⟨b1,b2,b3⟩ <;> first | rfl | (exfalso; omega)
 ·rcases h' with ⟨b1,rfl⟩ | ⟨b1,b2,rfl⟩ | ⟨b1,b2,b3⟩ <;> first | rfl | (exfalso; omega)
 ·rcases h' with ⟨b1,rfl⟩ | ⟨b1,b2,rfl⟩ | ⟨b1,b2,b3⟩ <;> first | (exfalso; omega) | exact Zms a3 b3
theorem Zmw {l:List (List Int)} (h:Zhe l):Zhe (dfs [] l):=fun x hx=>h x (by simpa using (dfs_mem l [] x).1 hx)
theorem Zsb (k:Arr 2) (l:List (List Int)) (p m:Int) (hi:Zhe l) (hl:l.length≤100000):∃ r,Zbu k l p m=some r∧BR k l p m r:=by
 rw [Zbu];by_cases h1:4096<l.length
 ·rw [if_pos (by omega)]
  exact ⟨_,rfl,.inl ⟨h1,rfl⟩⟩
 ·rw [if_neg (by omega)]
  by_cases h2:((m<1∨1099511627776<m)∨p<0)∨32<p
  ·rw [if_pos h2]
   exact ⟨_,rfl,.inr (.inl ⟨by omega,h2,rfl⟩)⟩
  ·rw [if_neg h2]
   refine Xg (step:=Za2 l k m p) (fun q s=>∃ (i:Nat) (mp:List (ByteArray×Bool)),s=((i:Int),mp,dfs [] (l.take i))∧i≤l.length∧(∀ x,Byt x→((ZfE (ZcZ x) mp).getD false=true↔x∈dfs [] (l.take i)))∧q=l.length-i) _ ?_ _ _ ⟨0,[],rfl,by omega,fun x _=>by simp [ZfE,dfs],rfl⟩;rintro q s ⟨i,mp,rfl,hil,hmp,rfl⟩
   have hdl:=dfs_len (l.take i) [];by_cases h:i<l.length
   ·have hx:=(hi _ (List.getElem_mem h)).1
    by_cases hq:l[i]∈dfs [] (l.take i)
    ·refine .inl ⟨l.length-(i+1),(((i+1:Nat):Int),mp,dfs [] (l.take (i+1))),by omega,?_,i+1,mp,rfl,by omega,?_,rfl⟩
     ·simp only [Za2,if_pos (show (i:Int)<(l.length:Int) by omega)]
      rw [Zt h,if_neg (by simp [(hmp _ hx).2 hq]),Zav,wS (by omega),Zd8 _ _ h,dfs_snoc,if_pos hq]
     ·intro x hb
      rw [hmp x hb,Zd8 _ _ h,dfs_snoc,if_pos hq]
    ·refine .inl ⟨l.length-(i+1),(((i+1:Nat):Int),ZfF (ZcZ l[i]) true mp,dfs [] (l.take (i+1))),by omega,?_,i+1,_,rfl,by omega,?_,rfl⟩
     ·simp only [Za2,if_pos (show (i:Int)<(l.length:Int) by omega)]
      rw [Zt h,if_pos (fun e=>hq ((hmp _ hx).1 e)),Zg (by simp at hdl; omega),Zav,wS (by omega),Zd8 _ _ h,dfs_snoc,if_neg hq]
     ·intro x hb
      rw [ZpC,Zd8 _ _ h,dfs_snoc,if_neg hq];by_cases e:x=l[i]
      ·subst e; simp
      ·rw [if_neg (fun e2=>e (Zmv hb hx e2)),hmp x hb]
       simp [e]
   ·have hdi:=Zmw hi
    have hdl2:=dfs_len l [];simp only [List.length_nil,Nat.zero_add] at hdl2;obtain ⟨r,g1,g2,g3⟩:=ZnI (srt ((dfs [] l).map (ZhQ k ((dfs [] l).length:Int) m))) p (ZoC (ZoB _ _ _ _)) (by rw [Zex]; simp; omega);refine .inr ⟨r,?_,.inr (.inr ⟨by omega,h2,g3⟩)⟩;simp only [Za2,if_neg (show ¬ (i:Int)<(l.length:Int) by omega),Zfh];rw [List.take_of_length_le (by omega),ZqO k _ _ m hdi (by omega),Zb,g1,Zb];rfl
theorem ZqQ (k:Arr 2) (l:List (List Int)) (p m:Int) (hi:Zhe l) (hl:l.length≤100000):∃ r,ZbY k l p m=some r∧BR k l p m r:=by
 rw [ZbY];by_cases h1:4096<l.length
 ·rw [if_pos (by omega)]
  exact ⟨_,rfl,.inl ⟨h1,rfl⟩⟩
 ·rw [if_neg (by omega)]
  by_cases h2:((m<1∨1099511627776<m)∨p<0)∨32<p
  ·rw [if_pos h2]
   exact ⟨_,rfl,.inr (.inl ⟨by omega,h2,rfl⟩)⟩
  ·rw [if_neg h2,Zsa l hi hl,Zb]
   have hdi:=Zmw hi;have hdl2:=dfs_len l [];simp only [List.length_nil,Nat.zero_add] at hdl2;generalize hde:dfs [] l=d at hdi hdl2;refine Xg (step:=Zcq d k m p) (fun q s=>∃ i:Nat,s=((i:Int),(d.take i).map (ZhQ k (d.length:Int) m))∧i≤d.length∧q=d.length-i) _ ?_ _ _ ⟨0,rfl,by omega,rfl⟩;rintro q s ⟨i,rfl,hil,rfl⟩
   by_cases h:i<d.length
   ·refine .inl ⟨d.length-(i+1),(((i+1:Nat):Int),(d.take (i+1)).map (ZhQ k (d.length:Int) m)),by omega,?_,i+1,rfl,by omega,rfl⟩
    simp only [Zcq,if_pos (show (i:Int)<(d.length:Int) by omega)];rw [XK h,Znl h,ZqM k _ _ _ (hdi _ (List.getElem_mem h)).2,Zb,Zg (by simp; omega),wS (by omega),Zjh _ _ _ h]
   ·obtain ⟨r,g1,g2,g3⟩:=ZnI (srt (d.map (ZhQ k (d.length:Int) m))) p (ZoC (ZoB _ _ _ _)) (by rw [Zex]; simp; omega)
    refine .inr ⟨r,?_,.inr (.inr ⟨by omega,h2,by rw [hde]; exact g3⟩)⟩;simp only [Zcq,if_neg (show ¬ (i:Int)<(d.length:Int) by omega),ZfH];rw [List.take_of_length_le (by omega),ZpD _ (by simp; omega),Zb,g2,Zb];rfl
theorem ZpE (k:Arr 2) (l:List (List Int)) (p m:Int) (hi:Zhe l) (hl:l.length≤100000):∃ r,Zbu k l p m=some r∧ZbY k l p m=some r∧BR k l p m r:=by
 obtain ⟨r,h1,h2⟩:=Zsb k l p m hi hl;obtain ⟨r',h3,h4⟩:=ZqQ k l p m hi hl;exact ⟨r,h1,by rw [h3,ZqP h4 h2],h2⟩
end
section
set_option maxRecDepth 100000
theorem Ztt (l:List (List Int)) (n m:Int) (hl:l.length≤9223372036854775807):∃ b,ZdA l n m=some b∧(b=true→(l.length:Int)≤n∧∀ x∈l,(x.length:Int)≤m):=by
 rw [ZdA];by_cases h1:n<(l.length:Int)
 ·rw [if_pos h1]
  exact ⟨false,rfl,by simp⟩
 ·rw [if_neg h1]
  refine Xg (step:=ZbP l m) (fun q s=>∃ i:Nat,s=(i:Int)∧i≤l.length∧(∀ x∈l.take i,(x.length:Int)≤m)∧q=l.length-i) _ ?_ _ _ ⟨0,rfl,by omega,by simp,rfl⟩;rintro q s ⟨i,rfl,hi,hx,rfl⟩
  by_cases h:i<l.length
  ·by_cases hm:m<(l[i].length:Int)
   ·refine .inr ⟨false,?_,by simp⟩
    simp only [ZbP,if_pos (show (i:Int)<(l.length:Int) by omega)];rw [Zt h,if_pos hm]
   ·refine .inl ⟨l.length-(i+1),((i+1:Nat):Int),by omega,?_,i+1,rfl,by omega,?_,rfl⟩
    ·simp only [ZbP,if_pos (show (i:Int)<(l.length:Int) by omega)]
     rw [Zt h,if_neg hm,wS (by omega)]
    ·intro x hxm
     rw [Zd8 _ _ h] at hxm;rcases List.mem_append.1 hxm with hxm | hxm
     ·exact hx x hxm
     ·rw [List.mem_singleton.1 hxm]; omega
  ·refine .inr ⟨true,?_,fun _=>⟨by omega,fun x hxm=>hx x (by rwa [List.take_of_length_le (by omega)])⟩⟩
   simp only [ZbP,if_neg (show ¬ (i:Int)<(l.length:Int) by omega),Lkeep_Items_k1];rfl
end
section
set_option maxRecDepth 100000
def ones (d:List Int):Nat→Nat→Nat
 | 0,_=>0
 | f+1,a=>if bt d a=true then ones d f (a+1)+1 else 0
end
section
set_option maxRecDepth 100000
def leV:List Int→Int
 | []=>0
 | x :: l=>x+256 * leV l
theorem Ztu (x:Int):IntKind.u8.wrap x=x % 256:=rfl
theorem Zsc (n:Int) (k:Nat):Byt (YX n k):=by
 intro x hx;obtain ⟨i,_,rfl⟩:=List.mem_map.1 hx;rw [Ztu];omega
def rdS (d:List Int) (a:Int) (k:Nat):Int×Int×Int :=
 if a<0∨(d.length:Int)<a then (0,0,5) else if (d.length:Int)-a<k then (0,0,1) else (leV ((d.drop a.toNat).take k),a+k,0)
end
section
set_option maxRecDepth 100000
theorem Ztv {a b:List Int} (ha:Byt a) (hb:Byt b):Byt (a++b):=fun x hx=>(List.mem_append.1 hx).elim (ha x) (hb x)
theorem const_true:Lconst_true=some true:=rfl
end
end Go.Lc
