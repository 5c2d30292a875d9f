import Derived.Test.YtbppknpnmjhjpaaGreatDoorLcG2
import Derived.Test.YtbppknpnmjhjpaaGreatDoorLcG4
import Derived.Sort.AssemblyPlain
namespace Go.Lc
open Go.RowKit
open Go.Av
set_option linter.unusedVariables false
set_option linter.unusedSimpArgs false
section
open Go.Sort
theorem Zn2 (x y:Int):Y6 x y=some (ltInt x y):=by simp[Y6,Zad,ltInt]
theorem gA {d:Array Int}{i:Nat}(h:i<d.size):d.toList[i]? = some d[i]! := by
 rw[getElem!_pos d i h];simp[h]
theorem gB {β:Type}{d:Array Int}{i:Nat}{f:Int→Option β}(h:i<d.size):(d.toList[i]?).bind f=f d[i]! := by rw[gA h]; rfl
theorem iB {β:Type}{d:Array Int}{i:Nat}{f:Nat→Option β}(h:i<d.size):(inA d.toList.length (i:Int)).bind f=f i:=Yk (by simpa using h)
theorem iB1 {β:Type}{d:Array Int}{i j:Nat}{x:Int}{f:Nat→Option β}(h:i<d.size):(inA (d.toList.set j x).length (i:Int)).bind f=f i:=Yk (by simpa using h)
theorem swpL (d:Array Int) (i j:Nat):(d.toList.set i d[j]!).set j d[i]! = (swp d i j).toList:=by simp[swp]
theorem sB {β:Type}(x:Bool) (f:Bool→Option β):(some x).bind f=f x:=rfl
theorem wI (n:Nat) (h:n<9223372036854775808):IntKind.i64.wrap (n:Int)=(n:Int):=wi _ (by omega)
theorem wS {i:Nat}(h:i<9223372036854775807):IntKind.i64.wrap ((i:Int)+1)=((i+1:Nat):Int):=by rw[wi _ (by omega)]; omega
theorem wP {i:Nat}(h:i<9223372036854775807):IntKind.i64.wrap (((i+1:Nat):Int)-1)=(i:Int):=by rw[wi _ (by omega)]; omega
theorem Zij (lt:Int→Int→Bool) (a:Nat):∀ (j:Nat) (d:Array Int),(insInner lt a j d).size=d.size
 | 0,d=>by rw[insInner]
 | j+1,d=>by
  rw[insInner];split
  ·rw[Zij lt a j,size_swp]
  ·rfl
theorem Zqg (a:Nat) (i:Int):∀ (j:Nat) (d:Array Int),j<d.size→d.size<4611686018427387904→Ze (ZM (a:Int) i) ((j:Int),d.toList)=ZV i (insInner ltInt a j d).toList
 | 0,d,hj,hs=>by
  rw[insInner];refine Xr ?_;have h:¬ ((a:Int)<((0:Nat):Int)):=by omega
  simp only[ZM,if_neg h,sB,h,false_and,if_false]
 | j+1,d,hj,hs=>by
  have hj':j<d.size:=by omega
  rw[insInner];by_cases h:a<j+1
  ·have hc:(a:Int)<((j+1:Nat):Int):=by omega
   by_cases hl:ltInt d[j+1]! d[j]! = true
   ·rw[Z1 (s' := ((j:Int),(swp d (j+1) j).toList)),Zqg a i j _ (by rw[size_swp]; exact hj') (by rw[size_swp]; exact hs),if_pos (by simp[h,hl])]
    simp only[ZM,if_pos hc,hc,true_and,wP (show j<9223372036854775807 by omega),iB hj,iB hj',gB hj,gB hj',Zn2,sB,hl,if_true,iB1 hj',swpL]
   ·rw[if_neg (by simp[hl])]
    refine Xr ?_;simp only[ZM,if_pos hc,hc,true_and,wP (show j<9223372036854775807 by omega),iB hj,iB hj',gB hj,gB hj',Zn2,sB,(by simpa using hl:ltInt d[j+1]! d[j]! = false),if_true,if_false,Bool.false_eq_true]
  ·rw[if_neg (by simp[h])]
   refine Xr ?_;have hc:¬ (a:Int)<((j+1:Nat):Int):=by omega
   simp only[ZM,if_neg hc,sB,hc,false_and,if_false]
theorem Zu1 (a b:Nat) (l0:List Int):∀ (n i:Nat) (d:Array Int),b-i=n→b≤d.size→d.size<4611686018427387904→d.size=l0.length→Ze (Z4 (b:Int) (a:Int) l0) ((i:Int),d.toList)=some (insOuter ltInt a b i d).toList:=by
 intro n;induction n with
 | zero =>
  intro i d h hb hs h0;rw[insOuter,if_neg (by omega)];refine Za9 ?_;simp only[Z4,if_neg (show ¬ (i:Int)<(b:Int) by omega)];rw[Zj (by simpa using h0)]
 | succ n ih =>
  intro i d h hb hs h0;rw[insOuter,if_pos (by omega),← ih (i+1) _ (by omega) (by rw[Zij]; exact hb) (by rw[Zij]; exact hs) (by rw[Zij]; exact h0)];refine Z1 ?_;simp only[Z4,if_pos (show(i:Int)<(b:Int) by omega)];rw[Zqg a _ i d (by omega) hs,ZV,wS (by omega)]
theorem ZyB (d:Array Int) (a b:Nat) (hb:b≤d.size) (ha:a≤b) (hs:d.size<4611686018427387904):Zy d.toList (a:Int) (b:Int)=some (insertionSort ltInt d a b).toList:=by
 rw[Zy,wS (by omega),Zu1 a b d.toList _ (a+1) d rfl hb hs (by simp)];rfl
end
section
open Go.Sort
theorem ZyC {x:Int}(h:0≤x∧x≤18446744073709551615):Zds x=some (Lib.bitLen x.toNat:Int):=by
 rw[Zds,Yz,Zj h];rfl
theorem Zpc {n:Nat}(h:n≤18446744073709551615):IntKind.u64.wrap (n:Int)=(n:Int):=wu _ (by omega)
def srt (l:List Int):List Int:=l.mergeSort fun x y=>decide (x≤y)
theorem Zck (l:List Int):(srt l).length=l.length:=List.length_mergeSort _
end
section
set_option maxRecDepth 100000
def bb (x:Int) (k:Nat):Bool:=decide ((x / 2 ^ (7-k)) % 2=1)
def bt (d:List Int) (i:Nat):Bool:=bb (d.getD (i / 8) 0) (i % 8)
def bl (d:List Int) (n:Nat):List Bool:=(List.range n).map (bt d)
def Byt (d:List Int):Prop:=∀ x∈d,0≤x∧x≤255
structure VB (d:List Int) (n:Nat):Prop where
 byt:Byt d
 len:d.length=(n+7) / 8
 rest:∀ i,n≤i→bt d i=false
theorem Byt.get {d:List Int}(h:Byt d) (i:Nat):0≤d.getD i 0∧d.getD i 0≤255:=by
 rw[List.getD_eq_getElem?_getD];by_cases hi:i<d.length
 ·simp only[List.getElem?_eq_getElem hi,Option.getD_some]
  exact h _ (List.getElem_mem hi)
 ·simp[List.getElem?_eq_none (Nat.le_of_not_lt hi)]
theorem byte_sum:∀ x:Fin 256,(x.val:Int)=(if bb x.val 0 then 128 else 0)+(if bb x.val 1 then 64 else 0)+(if bb x.val 2 then 32 else 0)+(if bb x.val 3 then 16 else 0)+(if bb x.val 4 then 8 else 0)+(if bb x.val 5 then 4 else 0)+(if bb x.val 6 then 2 else 0)+(if bb x.val 7 then 1 else 0):=by decide +kernel
theorem Zwx {x y:Int}(hx:0≤x∧x≤255) (hy:0≤y∧y≤255) (h:∀ k,k<8→bb x k=bb y k):x=y:=by
 obtain⟨a,rfl⟩:∃ a:Fin 256,x=(a.val:Int):=⟨⟨x.toNat,by omega⟩,by simp only; omega⟩
 obtain⟨b,rfl⟩:∃ a:Fin 256,y=(a.val:Int):=⟨⟨y.toNat,by omega⟩,by simp only; omega⟩
 rw[byte_sum a,byte_sum b,h 0 (by omega),h 1 (by omega),h 2 (by omega),h 3 (by omega),h 4 (by omega),h 5 (by omega),h 6 (by omega),h 7 (by omega)]
theorem ZyD {d d':List Int}{n:Nat}(h:VB d n) (h':VB d' n) (e:bl d n=bl d' n):d=d' := by
 have hb:∀ i,bt d i=bt d' i:=by
  intro i;by_cases hi:i<n
  ·have:=congrArg (fun l=>l[i]?) e
   simpa[bl,hi] using this
  ·rw[h.rest i (by omega),h'.rest i (by omega)]
 apply List.ext_getElem (by rw[h.len,h'.len])
 intro i h1 h2;have g1:d.getD i 0=d[i]:=by simp[List.getD_eq_getElem?_getD,h1]
 have g2:d'.getD i 0=d'[i]:=by simp[List.getD_eq_getElem?_getD,h2]
 refine Zwx (h.byt _ (List.getElem_mem h1)) (h'.byt _ (List.getElem_mem h2)) fun k hk=>?_
 have:=hb (8 * i+k);simp only[bt,show(8 * i+k) / 8=i by omega,show(8 * i+k) % 8=k by omega,g1,g2] at this;exact this
theorem or_byte:∀ (x:Fin 256) (k j:Fin 8),bb (bits .or .u8 (x.val:Int) (2 ^ (7-k.val))) j.val=(decide (j=k) || bb (x.val:Int) j.val):=by decide +kernel
theorem or_range:∀ (x:Fin 256) (k:Fin 8),0≤bits .or .u8 (x.val:Int) (2 ^ (7-k.val))∧bits .or .u8 (x.val:Int) (2 ^ (7-k.val))≤255:=by decide +kernel
def nd (d:List Int) (n:Nat) (b:Bool):List Int :=
 let d1:=if n % 8=0 then d++[0] else d
 if b=true then d1.set (n / 8) (bits .or .u8 (d1.getD (n / 8) 0) (2 ^ (7-n % 8))) else d1
theorem Zu2 (d:List Int) (q:Nat):(d++[0]).getD q 0=d.getD q 0:=by
 simp only[List.getD_eq_getElem?_getD];by_cases h:q<d.length
 ·rw[List.getElem?_append_left h]
 ·rw[List.getElem?_append_right (by omega),List.getElem?_eq_none (Nat.le_of_not_lt h)]
  rcases Nat.eq_zero_or_pos (q-d.length) with h0 | h0
  ·rw[h0]; rfl
  ·rw[List.getElem?_eq_none (by simp; omega)]
theorem Zwy (d:List Int) (p q:Nat) (x:Int) (h:p<d.length):(d.set p x).getD q 0=if q=p then x else d.getD q 0:=by
 simp only[List.getD_eq_getElem?_getD,List.getElem?_set];by_cases e:q=p
 ·subst e; simp[h]
 ·simp[e,Ne.symm e]
theorem ZxO {d:List Int}{n:Nat}(b:Bool) (h:VB d n):VB (nd d n b) (n+1)∧bl (nd d n b) (n+1)=bl d n++[b]:=by
 have hlen:=h.len
 have hd1:∃ d1,d1=(if n % 8=0 then d++[0] else d)∧d1.length=(n+8) / 8∧(∀ q,d1.getD q 0=d.getD q 0)∧Byt d1:=by
  refine⟨_,rfl,?_,?_,?_⟩
  ·split
   ·simp; omega
   ·omega
  ·intro q
   split
   ·exact Zu2 d q
   ·rfl
  ·split
   ·intro x hx
    simp only[List.mem_append,List.mem_singleton] at hx;rcases hx with hx | rfl
    ·exact h.byt x hx
    ·omega
   ·exact h.byt
 obtain⟨d1,e1,l1,g1,y1⟩:=hd1;have hn8:n / 8<d1.length:=by omega
 have hx:=y1.get (n / 8)
 have hbt:∀ i,bt (nd d n b) i=if i=n then b else bt d i:=by
  intro i;unfold nd;rw[← e1];simp only;cases b with
  | false =>
   simp only[Bool.false_eq_true,if_false,bt,g1];split
   ·rename_i e
    subst e;exact h.rest i (Nat.le_refl _)
   ·rfl
  | true =>
   simp only[if_true,bt];rw[Zwy _ _ _ _ hn8];obtain⟨x,hxe⟩:∃ x:Fin 256,d1.getD (n / 8) 0=(x.val:Int):=⟨⟨(d1.getD (n / 8) 0).toNat,by omega⟩,by simp only; omega⟩
   have ho:=or_byte x ⟨n % 8,Nat.mod_lt _ (by omega)⟩ ⟨i % 8,Nat.mod_lt _ (by omega)⟩;simp only at ho;by_cases e:i / 8=n / 8
   ·rw[if_pos e,hxe,ho,e,← g1,hxe]
    by_cases e2:i=n
    ·subst e2; simp
    ·rw[if_neg e2,show(decide ((⟨i % 8,Nat.mod_lt _ (by omega)⟩:Fin 8)=⟨n % 8,Nat.mod_lt _ (by omega)⟩))=false by simp; omega]
     simp
   ·rw[if_neg e,if_neg (by intro e2; exact e (by rw[e2])),g1]
 have hl2:(nd d n b).length=d1.length:=by
  unfold nd;rw[← e1];simp only;split <;> simp
 refine⟨⟨?_,?_,?_⟩,?_⟩
 ·unfold nd
  rw[← e1];simp only;split
  ·intro x hx'
   rcases List.mem_or_eq_of_mem_set hx' with hm | rfl
   ·exact y1 x hm
   ·obtain⟨x,hxe⟩:∃ x:Fin 256,d1.getD (n / 8) 0=(x.val:Int):=⟨⟨(d1.getD (n / 8) 0).toNat,by omega⟩,by simp only; omega⟩
    rw[hxe];exact or_range x ⟨n % 8,Nat.mod_lt _ (by omega)⟩
  ·exact y1
 ·rw[hl2,l1]
 ·intro i hi
  rw[hbt,if_neg (by omega)];exact h.rest i (by omega)
 ·unfold bl
  rw[List.range_succ,List.map_append]
  congr 1
  ·apply List.map_congr_left
   intro i hi;rw[hbt,if_neg (by have:=List.mem_range.1 hi; omega)]
  ·simp[hbt]
theorem sh_prog:∀ k:Fin 8,(128:Int).fdiv (2 ^ (min k.val 8))=2 ^ (7-k.val):=by decide +kernel
theorem sh_ref:∀ k:Fin 8,IntKind.u8.wrap (1 * (2 ^ (min (7-k.val) 8)))=2 ^ (7-k.val):=by decide +kernel
theorem Zn3 (n:Nat):((n:Int)).tmod 8=((n % 8:Nat):Int):=by rw[Int.tmod_eq_emod_of_nonneg (by omega)]; omega
theorem Zpd (n:Nat):((n:Int)).tdiv 8=((n / 8:Nat):Int):=by rw[Int.tdiv_eq_ediv_of_nonneg (by omega)]; omega
theorem gD {β:Type}{d:List Int}{i:Nat}{f:Int→Option β}(h:i<d.length):(d[i]?).bind f=f (d.getD i 0):=by
 rw[ZaV h];simp[List.getD_eq_getElem?_getD,h]
theorem ZrF {d:List Int}{n:Nat}(b:Bool) (h:VB d n) (hn:n≤2000000):XY (d,(n:Int)) b=some (nd d n b,((n+1:Nat):Int)):=by
 have hlen:=h.len
 have hk1:∀ d1:List Int,n / 8<d1.length→Y7 b (d,(n:Int)) d1=some (if b=true then d1.set (n / 8) (bits .or .u8 (d1.getD (n / 8) 0) (2 ^ (7-n % 8))) else d1,((n+1:Nat):Int)):=by
  intro d1 h1;have hs:=sh_prog ⟨n % 8,Nat.mod_lt _ (by omega)⟩;simp only at hs;cases b with
  | true =>
   simp only[Y7,Xx,if_true,Zpd,Zn3,wI (n / 8) (by omega),wS (show n<9223372036854775807 by omega)];rw[Yk h1,gD h1,Zj (by omega),show(((n % 8:Nat):Int)).toNat=n % 8 by omega,hs]
  | false=>simp only[Y7,Xx,Bool.false_eq_true,if_false,wS (show n<9223372036854775807 by omega)]
 simp only[XY,Zn3];unfold nd;by_cases h0:n % 8=0
 ·rw[if_pos (by omega),if_pos h0,Zj (by omega),hk1 _ (by simp; omega)]
 ·rw[if_neg (by omega),if_neg h0,hk1 _ (by omega)]
theorem ZpI {d:List Int}{n:Nat}(b:Bool) (h:VB d n) (hn:n≤2000000):ZiX (d,(n:Int)) b=some (nd d n b,((n+1:Nat):Int)):=by
 have hlen:=h.len
 have hk1:∀ d1:List Int,n / 8<d1.length→Zf6 b (d,(n:Int)) d1=some (if b=true then d1.set (n / 8) (bits .or .u8 (d1.getD (n / 8) 0) (2 ^ (7-n % 8))) else d1,((n+1:Nat):Int)):=by
  intro d1 h1;have hs:=sh_ref ⟨n % 8,Nat.mod_lt _ (by omega)⟩;simp only at hs;have e7:IntKind.i64.wrap (7-((n % 8:Nat):Int))=((7-n % 8:Nat):Int):=by rw[wi _ (by omega)]; omega
  cases b with
  | true =>
   simp only[Zf6,Zid,if_true,Zpd,Zn3,wI (n / 8) (by omega),wS (show n<9223372036854775807 by omega),e7];rw[Yk h1,gD h1,Zj (by omega),show(((7-n % 8:Nat):Int)).toNat=7-n % 8 by omega,hs]
  | false=>simp only[Zf6,Zid,Bool.false_eq_true,if_false,wS (show n<9223372036854775807 by omega)]
 simp only[ZiX,Zn3];unfold nd;by_cases h0:n % 8=0
 ·rw[if_pos (by omega),if_pos h0,Zj (by omega),hk1 _ (by simp; omega)]
 ·rw[if_neg (by omega),if_neg h0,hk1 _ (by omega)]
end
section
set_option maxRecDepth 100000
theorem mask_byte:∀ (x:Fin 256) (k:Fin 8),(∀ j:Fin 8,k≤j→bb (x.val:Int) j.val=false)→bits .and .u8 (x.val:Int) ((255:Int).fdiv (2 ^ (min k.val 8)))=0:=by decide +kernel
theorem nlen (n:Nat) (hn:n≤2000000):IntKind.i64.wrap ((IntKind.i64.wrap ((n:Int)+7)).tdiv 8)=(((n+7) / 8:Nat):Int):=by
 rw[wi ((n:Int)+7) (by omega),show(n:Int)+7=((n+7:Nat):Int) by omega,Zpd,wI _ (by omega)]
theorem ZtO {d:List Int}{n:Nat}(h:VB d n) (hn:n≤1600000):Zgl (d,(n:Int))=some true:=by
 have hlen:=h.len;simp only[Zgl,nlen n (by omega),Zn3];rw[if_neg (by omega)];by_cases h0:n % 8=0
 ·rw[if_pos (by omega),Za]
  simp[h0]
 ·have hl:d.length-1<d.length:=by omega
  have hx:=h.byt.get (d.length-1);rw[if_neg (by omega),show IntKind.i64.wrap ((d.length:Int)-1)=((d.length-1:Nat):Int) by rw[wi _ (by omega)]; omega,Zi hl,Zj (by omega),Za,show(((n % 8:Nat):Int)).toNat=n % 8 by omega];obtain⟨x,hxe⟩:∃ x:Fin 256,d.getD (d.length-1) 0=(x.val:Int):=⟨⟨(d.getD (d.length-1) 0).toNat,by omega⟩,by simp only; omega⟩
  have hg:d[d.length-1]=(x.val:Int):=by rw[← hxe]; simp[List.getD_eq_getElem?_getD,hl]
  have hm:=mask_byte x ⟨n % 8,Nat.mod_lt _ (by omega)⟩ (fun j hj=>by
   have:=h.rest (8 * (d.length-1)+j.val) (by have:n % 8≤j.val:=hj; omega);rw[bt,show(8 * (d.length-1)+j.val) / 8=d.length-1 by omega,show(8 * (d.length-1)+j.val) % 8=j.val by omega,hxe] at this
   exact this)
  simp only at hm;rw[hg,hm];simp
theorem and1_byte:∀ (x:Fin 256) (k:Fin 8),decide (bits .and .u8 ((x.val:Int).fdiv (2 ^ (min (7-k.val) 8))) 1=1)=bb (x.val:Int) k.val:=by decide +kernel
theorem ZxP {d:List Int}{i:Nat}{n:Int}(h:Byt d) (hi:i<8 * d.length) (hs:i≤4000000):ZmN (d,n) (i:Int)=some (bt d i):=by
 have hl:i / 8<d.length:=by omega
 have hx:=h.get (i / 8);obtain⟨x,hxe⟩:∃ x:Fin 256,d.getD (i / 8) 0=(x.val:Int):=⟨⟨(d.getD (i / 8) 0).toNat,by omega⟩,by simp only; omega⟩
 have hg:d[i / 8]=(x.val:Int):=by rw[← hxe]; simp[List.getD_eq_getElem?_getD,hl]
 have e7:IntKind.i64.wrap (7-((i % 8:Nat):Int))=((7-i % 8:Nat):Int):=by rw[wi _ (by omega)]; omega
 simp only[ZmN,Zn3,Zpd,wI (i / 8) (by omega),e7];rw[Zi hl,Zj (by omega),show(((7-i % 8:Nat):Int)).toNat=7-i % 8 by omega,hg,bt,hxe];have:=and1_byte x ⟨i % 8,Nat.mod_lt _ (by omega)⟩;simp only at this;rw[this]
theorem Zu3 {d:List Int}{n:Nat}(h:VB d n) (hn:n≤1600000):Zlh (d,(n:Int))=some true:=by
 have hlen:=h.len;simp only[Zlh,nlen n (by omega)];rw[if_neg (by omega)]
 obtain⟨r,h1,rfl⟩:=ZaE (step:=ZgG (d,(n:Int))) (fun m (s:Int)=>∃ i:Nat,s=(i:Int)∧n≤i∧i≤8 * d.length∧m=8 * d.length-i) (fun r=>r=true) (by
  rintro m s ⟨i,rfl,h1,h2,rfl⟩
  have e8:IntKind.i64.wrap (8 * (d.length:Int))=((8 * d.length:Nat):Int):=by rw[wi _ (by omega)]; omega
  by_cases hi:i<8 * d.length
  ·refine .inl ⟨8 * d.length-(i+1),((i+1:Nat):Int),by omega,?_,i+1,rfl,by omega,by omega,rfl⟩
   simp only[ZgG,e8,if_pos (show(i:Int)<((8 * d.length:Nat):Int) by omega)];rw[ZxP h.byt hi (by omega),Za,h.rest i h1,if_neg (by simp),wS (by omega)]
  ·refine .inr ⟨true,?_,rfl⟩
   simp only[ZgG,e8,if_neg (show ¬ (i:Int)<((8 * d.length:Nat):Int) by omega),Lref18_Valid_k1]
   rfl) _ (n:Int) ⟨n,rfl,Nat.le_refl _,by omega,rfl⟩
 exact h1
def Wr (d:List Int) (n:Nat) (B:List Bool) (x:List Int×Int):Prop:=x.2=((n+B.length:Nat):Int)∧VB x.1 (n+B.length)∧bl x.1 (n+B.length)=bl d n++B
theorem Wr.nil {d:List Int}{n:Nat}(h:VB d n):Wr d n [] (d,(n:Int)):=⟨rfl,by simpa using h,by simp⟩
theorem Wr.snoc {d d':List Int}{n m:Nat}{B:List Bool}(b:Bool) (h:Wr d n B (d',(m:Int))):Wr d n (B++[b]) (nd d' m b,((m+1:Nat):Int)):=by
 obtain⟨h1,h2,h3⟩:=h;have e:m=n+B.length:=by simp only at h1; omega
 subst e;obtain⟨g1,g2⟩:=ZxO b h2;simp only at h3;refine⟨by simp; omega,by simpa[Nat.add_assoc] using g1,?_⟩;rw[show n+(B++[b]).length=n+B.length+1 by simp; omega];show bl (nd d' (n+B.length) b) _=_
 rw[g2,h3,List.append_assoc]
theorem Wr.vb {d d':List Int}{n m:Nat}{B:List Bool}(h:Wr d n B (d',(m:Int))):VB d' m∧m=n+B.length:=by
 obtain⟨h1,h2,_⟩:=h;have e:m=n+B.length:=by simp only at h1; omega
 subst e;exact⟨h2,rfl⟩
theorem and1 {x:Int}(h0:0≤x) (h1:x≤18446744073709551615):bits .and .u64 x 1=x % 2:=by
 show IntKind.u64.wrap ((BitVec.ofInt 64 x &&& BitVec.ofInt 64 1).toNat:Int)=_
 rw[BitVec.toNat_and]
 have e1:(BitVec.ofInt 64 x).toNat=x.toNat:=by
  simp[BitVec.toNat_ofInt]
  omega
 have e2:(BitVec.ofInt 64 1).toNat=1:=rfl;rw[e1,e2,Nat.and_one_is_mod,wu _ (by omega)];omega
def Zkw (v:Int) (p:Nat):List Bool:=(List.range p).map fun i=>decide ((v / 2 ^ (p-1-i)) % 2=1)
def Zc0 (v:Int) (p:Nat):List Bool:=List.replicate (v / 2 ^ p).toNat true++(false :: Zkw v p)
theorem ZlU (v:Int) (p:Nat):(Zkw v p).length=p:=by simp[Zkw]
theorem Zh5 (v:Int) (p:Nat):(Zc0 v p).length=(v / 2 ^ p).toNat+1+p:=by simp[Zc0,ZlU]; omega
theorem fd {v:Int}(h:0≤v) (k:Nat):v.fdiv (2 ^ k)=v / 2 ^ k:=Int.fdiv_eq_ediv_of_nonneg _ (by have:(0:Int)<2 ^ k:=Int.pow_pos (by omega); omega)
theorem ZiK {v:Int}(h0:0≤v) (k:Nat):0≤v / 2 ^ k∧v / 2 ^ k≤v:=by
 have:(0:Int)<2 ^ k:=Int.pow_pos (by omega);exact⟨Int.ediv_nonneg h0 (by omega),Int.ediv_le_self _ h0⟩
theorem Zqh {v:Int}{p i:Nat}(h:i<p):(Zkw v p).take (i+1)=(Zkw v p).take i++[decide ((v / 2 ^ (p-1-i)) % 2=1)]:=by
 rw[List.take_add_one]
 congr 1
 simp[Zkw,h]
theorem ZyG {d0:List Int}{n0:Nat}{B:List Bool}{d:List Int}{n:Nat}{v:Int}{p:Nat}(h:Wr d0 n0 B (d,(n:Int))) (hn:n+p≤1700000) (hp:p≤64) (h0:0≤v) (h1:v≤18446744073709551615):∃ x,Zaw (d,(n:Int)) v (p:Int)=some x∧Wr d0 n0 (B++Zkw v p) x:=by
 rw[Zaw];refine ZaE (step:=ZaA (p:Int) v) (fun m s=>∃ (i:Nat) (d':List Int),s=((i:Int),((n+i:Nat):Int),d')∧i≤p∧Wr d0 n0 (B++(Zkw v p).take i) (d',((n+i:Nat):Int))∧m=p-i) _ ?_ _ _ ⟨0,d,rfl,by omega,by simpa using h,rfl⟩;rintro m s ⟨i,d',rfl,hi,hw,rfl⟩
 by_cases hip:i<p
 ·refine .inl ⟨p-(i+1),(((i+1:Nat):Int),((n+(i+1):Nat):Int),nd d' (n+i) (decide ((v / 2 ^ (p-1-i)) % 2=1))),by omega,?_,i+1,_,rfl,by omega,?_,rfl⟩
  ·have e1:IntKind.i64.wrap ((IntKind.i64.wrap ((p:Int)-1))-(i:Int))=((p-1-i:Nat):Int):=by rw[wi ((p:Int)-1) (by omega),wi _ (by omega)]; omega
   simp only[ZaA,if_pos (show(i:Int)<(p:Int) by omega),e1];rw[Zj (by omega),show min (((p-1-i:Nat):Int)).toNat 64=p-1-i by omega,fd h0,and1 (ZiK h0 _).1 (by have:=(ZiK h0 (p-1-i)).2; omega),ZrF _ hw.vb.1 (by omega),Za,wS (by omega)];rfl
  ·rw[Zqh hip,← List.append_assoc]
   exact hw.snoc _
 ·refine .inr ⟨(d',((n+i:Nat):Int)),?_,?_⟩
  ·simp only[ZaA,if_neg (show ¬ (i:Int)<(p:Int) by omega)]
  ·rwa[List.take_of_length_le (by rw[ZlU]; omega)] at hw
theorem ZxQ {d0:List Int}{n0:Nat}{B:List Bool}{d:List Int}{n:Nat}{v:Int}{p:Nat}(h:Wr d0 n0 B (d,(n:Int))) (hn:n+p≤1700000) (hp:p≤64) (h0:0≤v) (h1:v≤18446744073709551615):∃ x,Ze (Zbf v) (IntKind.i64.wrap ((p:Int)-1),(n:Int),d)=some (x,0)∧Wr d0 n0 (B++Zkw v p) x:=by
 obtain⟨r,g1,x,rfl,g2⟩:=ZaE (step:=Zbf v) (fun m s=>∃ (i:Nat) (d':List Int),s=((p:Int)-1-(i:Int),((n+i:Nat):Int),d')∧i≤p∧Wr d0 n0 (B++(Zkw v p).take i) (d',((n+i:Nat):Int))∧m=p-i) (fun r=>∃ x,r=(x,(0:Int))∧Wr d0 n0 (B++Zkw v p) x) (by
  rintro m s ⟨i,d',rfl,hi,hw,rfl⟩
  by_cases hip:i<p
  ·refine .inl ⟨p-(i+1),((p:Int)-1-((i+1:Nat):Int),((n+(i+1):Nat):Int),nd d' (n+i) (decide ((v / 2 ^ (p-1-i)) % 2=1))),by omega,?_,i+1,_,rfl,by omega,?_,rfl⟩
   ·simp only[Zbf,if_pos (show(0:Int)≤(p:Int)-1-(i:Int) by omega)]
    rw[Zj (by omega),show min ((p:Int)-1-(i:Int)).toNat 64=p-1-i by omega,fd h0,and1 (ZiK h0 _).1 (by have:=(ZiK h0 (p-1-i)).2; omega),ZpI _ hw.vb.1 (by omega),Za,wi _ (by omega)];simp only[show(p:Int)-1-(i:Int)-1=(p:Int)-1-((i+1:Nat):Int) by omega];rfl
   ·rw[Zqh hip,← List.append_assoc]
    exact hw.snoc _
  ·refine .inr ⟨((d',((n+i:Nat):Int)),0),?_,_,rfl,?_⟩
   ·simp only[Zbf,if_neg (show ¬ (0:Int)≤(p:Int)-1-(i:Int) by omega),ZiY]
    rfl
   ·rwa[List.take_of_length_le (by rw[ZlU]; omega)] at hw) _ (IntKind.i64.wrap ((p:Int)-1),(n:Int),d) ⟨0,d,by rw[wi _ (by omega)]; simp,by omega,by simpa using h,rfl⟩
 exact⟨x,g1,g2⟩
def ARS (d:List Int) (n:Nat) (v:Int) (p:Nat) (r:(List Int×Int)×Int):Prop :=
 if 65536<v / 2 ^ p∨1600000<n+(v / 2 ^ p).toNat+1+p then r=(([],0),4) else ∃ x,r=(x,0)∧Wr d n (Zc0 v p) x
theorem ZrG {α:Type}(i:Nat) (a:α):List.replicate (i+1) a=List.replicate i a++[a]:=by rw[List.replicate_succ']
theorem Zwz (d:List Int) (n:Int) (h:d.length≤140737488355328):Zgm (d,n)=some (d,n):=by
 simp only[Zgm];rw[Zj (by omega)];simp
theorem ZzI {d:List Int}{n:Nat}{v:Int}{p:Nat}(h:VB d n) (hn:n≤1600000) (hp:p≤32) (h0:0≤v) (h1:v≤18446744073709551615):∃ r,ZaQ (d,(n:Int)) v (p:Int)=some r∧ARS d n v p r:=by
 have hlen:=h.len;have hq:=ZiK h0 p;have ep:min ((p:Int)).toNat 64=p:=by omega
 rw[ZaQ,ZtO h hn,Za,if_neg (by simp),if_neg (by omega),Zj (by omega)];simp only[ep,fd h0];unfold ARS;generalize hqe:v / 2 ^ p=q at hq
 have hcond:(65536<q∨1600000<IntKind.i64.wrap ((IntKind.i64.wrap ((IntKind.i64.wrap ((n:Int)+(IntKind.i64.wrap q)))+1))+(p:Int)))↔(65536<q∨1600000<n+q.toNat+1+p):=by
  by_cases hq6:65536<q
  ·simp[hq6]
  ·rw[wi q (by omega),wi ((n:Int)+q) (by omega),wi ((n:Int)+q+1) (by omega),wi _ (by omega)]
   omega
 by_cases hc:65536<q∨1600000<n+q.toNat+1+p
 ·rw[if_pos (hcond.2 hc)]
  simp only[if_pos hc];exact⟨_,rfl,rfl⟩
 ·rw[if_neg (fun h=>hc (hcond.1 h)),Zwz d _ (by omega),Za]
  simp only[if_neg hc];refine ZaE (step:=ZbM v (p:Int)) (fun m s=>∃ (i:Nat) (d':List Int),s=((i:Int),((n+i:Nat):Int),d')∧i≤q.toNat∧Wr d n (List.replicate i true) (d',((n+i:Nat):Int))∧m=q.toNat-i) _ ?_ _ _ ⟨0,d,rfl,by omega,by simpa using Wr.nil h,rfl⟩;rintro m s ⟨i,d',rfl,hi,hw,rfl⟩
  by_cases hiq:i<q.toNat
  ·refine .inl ⟨q.toNat-(i+1),(((i+1:Nat):Int),((n+(i+1):Nat):Int),nd d' (n+i) true),by omega,?_,i+1,_,rfl,by omega,?_,rfl⟩
   ·simp only[ZbM,ep,fd h0,hqe,if_pos (show(i:Int)<q by omega)]
    rw[ZrF _ hw.vb.1 (by omega),Za,wu _ (by omega)];rfl
   ·rw[ZrG]
    exact hw.snoc _
  ·have e:i=q.toNat:=by omega
   subst e;have hw2:=hw.snoc false;obtain⟨x,g1,g2⟩:=ZyG (p:=p) hw2 (by omega) (by omega) h0 h1;refine .inr ⟨(x,0),?_,x,rfl,?_⟩
   ·simp only[ZbM,ep,fd h0,hqe,if_neg (show ¬ ((q.toNat:Nat):Int)<q by omega),Zea]
    rw[ZrF _ hw.vb.1 (by omega),Za,g1,Za];rfl
   ·rw[List.append_assoc] at g2
    rw[Zc0,hqe];exact g2
theorem ZrH (d:List Int) (h:d.length≤140737488355328):Xt [d]=some d:=by
 rw[Xt,Z1 (s' := (1,d)),Za9 (r:=d)]
 ·simp[Zae,Zho]
 ·simp only[Zae,List.length_singleton,if_pos (show(0:Int)<((1:Nat):Int) by omega)]
  rw[show(0:Int)=((0:Nat):Int) from rfl,Zi (by simp)];simp only[List.getElem_cons_zero];rw[X8 (by simpa using h),Za];rfl
theorem ZyH {d:List Int}{n:Nat}{v:Int}{p:Nat}(h:VB d n) (hn:n≤1600000) (hp:p≤32) (h0:0≤v) (h1:v≤18446744073709551615):∃ r,Ze0 (d,(n:Int)) v (p:Int)=some r∧ARS d n v p r:=by
 have hlen:=h.len;have hq:=ZiK h0 p;have ep:min ((p:Int)).toNat 64=p:=by omega
 rw[Ze0,Zu3 h hn,Za,if_neg (by simp),if_neg (by omega),Zj (by omega)];simp only[ep,fd h0];unfold ARS;generalize hqe:v / 2 ^ p=q at hq;by_cases hq6:65536<q
 ·rw[if_pos hq6,Za,if_pos (.inl hq6)]
  simp only[if_pos (show 65536<q∨1600000<n+q.toNat+1+p from .inl hq6)];exact⟨_,rfl,rfl⟩
 ·rw[if_neg hq6,Zj (by omega),Za,wi q (by omega),wi ((n:Int)+q) (by omega),wi ((n:Int)+q+1) (by omega),wi _ (by omega)]
  by_cases hc:65536<q∨1600000<n+q.toNat+1+p
  ·rw[if_pos (.inr (by simp; omega))]
   simp only[if_pos hc];exact⟨_,rfl,rfl⟩
  ·rw[if_neg (by simp; omega),ZrH d (by omega),Za,Zj (by omega)]
   simp only[if_neg hc];refine ZaE (step:=Zdg v (p:Int)) (fun m s=>∃ (i:Nat) (d':List Int),s=(q-(i:Int),((n+i:Nat):Int),d')∧i≤q.toNat∧Wr d n (List.replicate i true) (d',((n+i:Nat):Int))∧m=q.toNat-i) _ ?_ _ _ ⟨0,d,by simp,by omega,by simpa using Wr.nil h,rfl⟩;rintro m s ⟨i,d',rfl,hi,hw,rfl⟩
   by_cases hiq:i<q.toNat
   ·refine .inl ⟨q.toNat-(i+1),(q-((i+1:Nat):Int),((n+(i+1):Nat):Int),nd d' (n+i) true),by omega,?_,i+1,_,rfl,by omega,?_,rfl⟩
    ·simp only[Zdg,if_pos (show(0:Int)<q-(i:Int) by omega)]
     rw[ZpI _ hw.vb.1 (by omega),Za,wu _ (by omega),show q-(i:Int)-1=q-((i+1:Nat):Int) by omega];rfl
    ·rw[ZrG]
     exact hw.snoc _
   ·have e:i=q.toNat:=by omega
    subst e;have hw2:=hw.snoc false;obtain⟨x,g1,g2⟩:=ZxQ (p:=p) hw2 (by omega) (by omega) h0 h1;refine .inr ⟨(x,0),?_,x,rfl,?_⟩
    ·simp only[Zdg,if_neg (show ¬ (0:Int)<q-((q.toNat:Nat):Int) by omega),ZiZ]
     rw[ZpI _ hw.vb.1 (by omega),Za,g1];rfl
    ·rw[List.append_assoc] at g2
     rw[Zc0,hqe];exact g2
end
section
set_option maxRecDepth 100000
def U64 (l:List Int):Prop:=∀ x∈l,0≤x∧x≤18446744073709551615
def ZoJ (l:List Int):Prop:=∀ i (h:i+1<l.length),l[i]≤l[i+1]
theorem Zsd (l:List Int) (hs:l.length<4611686018427387904):∃ b,Yc l=some b∧(b=true↔ZoJ l):=by
 rw[Yc];rcases Nat.eq_zero_or_pos l.length with h0 | h0
 ·refine⟨true,Za9 ?_,by simp; intro i h; omega⟩
  rw[h0];simp only[ZT];rw[if_neg (by decide),Lslices_IsSorted_of__uint64_uint64_k1];rfl
 ·rw[wi _ (by omega),show(l.length:Int)-1=((l.length-1:Nat):Int) by omega]
  refine ZaE (step:=ZT l) (fun m s=>∃ i:Nat,s=(i:Int)∧i<l.length∧(∀ j (h:j+1<l.length),i≤j→l[j]≤l[j+1])∧m=i) _ ?_ _ _ ⟨l.length-1,rfl,by omega,fun j h hj=>by omega,rfl⟩;rintro m s ⟨i,rfl,hi,hj,hm⟩
  by_cases hi0:0<i
  ·obtain⟨i,rfl⟩:∃ k,i=k+1:=⟨i-1,by omega⟩
   have h1:i<l.length:=by omega
   by_cases hl:l[i+1]<l[i]
   ·refine .inr ⟨false,?_,by simp; exact fun h=>by have:=h i hi; omega⟩
    simp only[ZT,if_pos (show(0:Int)<((i+1:Nat):Int) by omega),Zi hi,wP (show i<9223372036854775807 by omega),Zi h1,Zn2,sB];rw[if_pos (by simp[Go.Sort.ltInt,hl])]
   ·refine .inl ⟨i,(i:Int),by omega,?_,i,rfl,h1,?_,rfl⟩
    ·simp only[ZT,if_pos (show(0:Int)<((i+1:Nat):Int) by omega),Zi hi,wP (show i<9223372036854775807 by omega),Zi h1,Zn2,sB]
     rw[if_neg (by simp[Go.Sort.ltInt]; omega)]
    ·intro j h hij
     by_cases e:j=i
     ·subst e; omega
     ·exact hj j h (by omega)
  ·refine .inr ⟨true,?_,by simp; exact fun j h=>hj j h (by omega)⟩
   simp only[ZT,if_neg (show ¬ (0:Int)<(i:Int) by omega),Lslices_IsSorted_of__uint64_uint64_k1];rfl
def Ziy (p:Nat):Nat→Int→List Int→Option (List Bool)
 | _,_,[]=>some []
 | n,a,v :: l=>if 65536<(v-a) / 2 ^ p∨1600000<n+((v-a) / 2 ^ p).toNat+1+p then none else(Ziy p (n+((v-a) / 2 ^ p).toNat+1+p) v l).map (Zc0 (v-a) p++·)
def Zpe (a:Int):List Int→Prop
 | []=>True
 | v :: l=>a≤v∧Zpe v l
def ESR (len:Nat) (d0:List Int) (n:Nat) (x:Option (List Bool)) (r:Tapi_Filter×Int):Prop:=match x with
 | none=>r=((0,[]),4)
 | some B=>∃ y,r=(((len:Int),y.1),0)∧Wr d0 n B y
theorem ZrI {AR:Tapi_Bits→Int→Int→Option (Tapi_Bits×Int)}(hAR:∀ (d:List Int) (n:Nat) (v:Int) (p:Nat),VB d n→n≤1600000→p≤32→0≤v→v≤18446744073709551615→∃ r,AR (d,(n:Int)) v (p:Int)=some r∧ARS d n v p r)
  {step:Int×Int×List Int×Int→Option ((Int×Int×List Int×Int) ⊕ (Tapi_Filter×Int))}{l:List Int}{p:Nat}(hp:p≤32) (hl:l.length≤4096) (hu:U64 l)
  (hst:∀ a i d n,step (a,i,d,n)=(if i<(l.length:Int) then(idx l i).bind fun x=>(AR (d,n) (IntKind.u64.wrap (x-a)) (p:Int)).bind fun y=>(if ¬ (y.2=0) then some (.inr (((0,([]:(List Int))),y.2))) else some (.inl (x,IntKind.i64.wrap (i+1),y.1.1,y.1.2))) else some (.inr (((l.length:Int),d),0)))) :
  ∀ (rest:List Int) (i:Nat) (a:Int) (d:List Int) (n:Nat),l.drop i=rest→VB d n→n≤1600000→0≤a→Zpe a rest→∃ r,Ze step (a,(i:Int),d,(n:Int))=some r∧ESR l.length d n (Ziy p n a rest) r:=by
 intro rest;induction rest with
 | nil =>
  intro i a d n hr hv hn ha hc;have hi:l.length≤i:=List.drop_eq_nil_iff.1 hr;refine⟨(((l.length:Int),d),0),Za9 ?_,(d,(n:Int)),rfl,Wr.nil hv⟩;rw[hst,if_neg (by omega)]
 | cons v rest ih =>
  intro i a d n hr hv hn ha hc
  have hi:i<l.length:=by
   rcases Nat.lt_or_ge i l.length with h | h
   ·exact h
   ·rw[List.drop_eq_nil_of_le h] at hr; cases hr
  have hx:l[i]=v∧l.drop (i+1)=rest:=by
   rw[List.drop_eq_getElem_cons hi] at hr;injection hr with h1 h2;exact⟨h1,h2⟩
  obtain⟨hx,hr2⟩:=hx;have hvu:=hu v (hx ▸ List.getElem_mem hi);obtain⟨hav,hc⟩:=hc;obtain⟨r,h1,h2⟩:=hAR d n (v-a) p hv hn hp (by omega) (by omega)
  have hs:step (a,(i:Int),d,(n:Int))=(if ¬ (r.2=0) then some (.inr (((0,([]:(List Int))),r.2))) else some (.inl (v,((i+1:Nat):Int),r.1.1,r.1.2))):=by
   rw[hst,if_pos (by omega),Zi hi,hx,wu _ (by omega),h1,Za,wS (by omega)]
  unfold ARS at h2;rw[Ziy];split at h2
  ·rename_i hc2
   subst h2;rw[if_pos hc2];exact⟨_,Za9 (by rw[hs,if_pos (by decide)]),rfl⟩
  ·rename_i hc2
   obtain⟨y,rfl,hw⟩:=h2;rw[if_neg hc2];rw[if_neg (by simp)] at hs;have e:y=(y.1,((n+(Zc0 (v-a) p).length:Nat):Int)):=by rw[← hw.1]
   have hv2:=hw.2.1;have hlr:=Zh5 (v-a) p;obtain⟨r,h3,h4⟩:=ih (i+1) v y.1 (n+(Zc0 (v-a) p).length) hr2 hv2 (by omega) (by omega) hc;simp only at hs;rw[hw.1] at hs;refine⟨r,(Z1 hs).trans h3,?_⟩;rw[hlr,show n+(((v-a) / 2 ^ p).toNat+1+p)=n+((v-a) / 2 ^ p).toNat+1+p by omega] at h4;cases hB:Ziy p (n+((v-a) / 2 ^ p).toNat+1+p) v rest with
   | none=>rw[hB] at h4; exact h4
   | some B =>
    rw[hB] at h4;obtain⟨z,rfl,g1,g2,g3⟩:=h4;refine⟨z,rfl,?_,?_,?_⟩
    ·rw[g1]; simp; omega
    ·rw[show n+(Zc0 (v-a) p++B).length=n+((v-a) / 2 ^ p).toNat+1+p+B.length by simp; omega]; exact g2
    ·rw[show n+(Zc0 (v-a) p++B).length=n+((v-a) / 2 ^ p).toNat+1+p+B.length by simp; omega,g3,← List.append_assoc]
     congr 1
     have:=hw.2.2
     rwa[hlr,show n+(((v-a) / 2 ^ p).toNat+1+p)=n+((v-a) / 2 ^ p).toNat+1+p by omega] at this
def ER (l:List Int) (p:Int) (r:Tapi_Filter×Int):Prop :=
 (4096<l.length∧r=((0,[]),4))∨(l.length≤4096∧(p<0∨32<p)∧r=((0,[]),5))∨(l.length≤4096∧0≤p∧p≤32∧¬ ZoJ l∧r=((0,[]),6))∨(l.length≤4096∧0≤p∧p≤32∧ZoJ l∧ESR l.length [] 0 (Ziy p.toNat 0 0 l) r)
theorem ZtP {len:Nat}{d:List Int}{n:Nat}{x:Option (List Bool)}{r r':Tapi_Filter×Int}(h:ESR len d n x r) (h':ESR len d n x r'):r=r' := by
 unfold ESR at h h';cases x with
 | none=>rw[h,h']
 | some B =>
  obtain⟨y,rfl,h1,h2,h3⟩:=h;obtain⟨z,rfl,g1,g2,g3⟩:=h';rw[ZyD h2 g2 (h3.trans g3.symm)]
theorem Zu4 {l:List Int}{p:Int}{r r':Tapi_Filter×Int}(h:ER l p r) (h':ER l p r'):r=r' := by
 unfold ER at h h';rcases h with ⟨a1,rfl⟩ | ⟨a1,a2,rfl⟩ | ⟨a1,a2,a3,a4,rfl⟩ | ⟨a1,a2,a3,a4,a5⟩
 ·rcases h' with ⟨b1,rfl⟩ | ⟨b1,b2,rfl⟩ | ⟨b1,b2,b3,b4,rfl⟩ | ⟨b1,b2,b3,b4,b5⟩ <;> first | rfl | (exfalso; omega)
 ·rcases h' with ⟨b1,rfl⟩ | ⟨b1,b2,rfl⟩ | ⟨b1,b2,b3,b4,rfl⟩ | ⟨b1,b2,b3,b4,b5⟩ <;> first | rfl | (exfalso; omega)
 ·rcases h' with ⟨b1,rfl⟩ | ⟨b1,b2,rfl⟩ | ⟨b1,b2,b3,b4,rfl⟩ | ⟨b1,b2,b3,b4,b5⟩ <;> first | rfl | (exfalso; omega) | exact absurd b4 a4
 ·rcases h' with ⟨b1,rfl⟩ | ⟨b1,b2,rfl⟩ | ⟨b1,b2,b3,b4,rfl⟩ | ⟨b1,b2,b3,b4,b5⟩ <;> first | (exfalso; omega) | exact absurd a4 b4 | exact ZtP a5 b5
theorem VB_nil:VB [] 0:=⟨fun x hx=>absurd hx (by simp),rfl,fun i _=>by simp[bt,bb]⟩
theorem asc_chain:∀ (l:List Int) (a:Int),(∀ h:0<l.length,a≤l[0])→ZoJ l→Zpe a l
 | [],a,_,_=>trivial
 | v :: l,a,h,hl=>⟨h (by simp),asc_chain l v (fun h0=>hl 0 (by simpa using h0)) fun i hi=>hl (i+1) (by simpa using hi)⟩
theorem Zu5 (l:List Int) (p:Int) (hu:U64 l) (hs:l.length<4611686018427387904):∃ r,ZbY l p=some r∧ER l p r:=by
 rw[ZbY];by_cases h1:4096<l.length
 ·rw[if_pos (by omega)]
  exact⟨_,rfl,.inl ⟨h1,rfl⟩⟩
 ·rw[if_neg (by omega)]
  by_cases h2:p<0∨32<p
  ·rw[if_pos h2]
   exact⟨_,rfl,.inr (.inl ⟨by omega,h2,rfl⟩)⟩
  ·rw[if_neg h2]
   obtain⟨b,hb,hb2⟩:=Zsd l hs;rw[hb,Za];by_cases h3:b=true
   ·rw[if_neg (by simp[h3])]
    obtain⟨q,rfl⟩:∃ q:Nat,p=(q:Int):=⟨p.toNat,by omega⟩
    obtain⟨r,g1,g2⟩:=ZrI (AR:=ZaQ) (fun d n v p h1 h2 h3 h4 h5=>ZzI h1 h2 h3 h4 h5) (step:=ZeZ l (q:Int)) (l:=l) (p:=q) (by omega) (by omega) hu (fun a i d n=>by rw[ZeZ,ZeY]; rfl) l 0 0 [] 0 rfl VB_nil (by omega) (by omega) (asc_chain l 0 (fun h=>(hu _ (List.getElem_mem h)).1) (hb2.1 h3));exact⟨r,g1,.inr (.inr (.inr ⟨by omega,by omega,by omega,hb2.1 h3,by simpa using g2⟩))⟩
   ·rw[if_pos h3]
    exact⟨_,rfl,.inr (.inr (.inl ⟨by omega,by omega,by omega,fun h=>h3 (hb2.2 h),rfl⟩))⟩
theorem ZtQ (l:List Int) (p:Int) (hu:U64 l) (hs:l.length<4611686018427387904):∃ r,Zkd l p=some r∧ER l p r:=by
 rw[Zkd];by_cases h1:4096<l.length
 ·rw[if_pos (by omega)]
  exact⟨_,rfl,.inl ⟨h1,rfl⟩⟩
 ·rw[if_neg (by omega)]
  by_cases h2:p<0∨32<p
  ·rw[if_pos h2]
   exact⟨_,rfl,.inr (.inl ⟨by omega,h2,rfl⟩)⟩
  ·rw[if_neg h2]
   obtain⟨q,rfl⟩:∃ q:Nat,p=(q:Int):=⟨p.toNat,by omega⟩
   refine ZaE (step:=ZdS l (q:Int)) (fun m s=>∃ i:Nat,s=((i+1:Nat):Int)∧i≤l.length∧(∀ j (h:j+1<l.length),j<i→l[j]≤l[j+1])∧m=l.length-i) _ ?_ _ _ ⟨0,rfl,by omega,fun j h hj=>by omega,rfl⟩;rintro m s ⟨i,rfl,hi,hj,rfl⟩
   by_cases hil:i+1<l.length
   ·have h0:i<l.length:=by omega
    by_cases hx:l[i+1]<l[i]
    ·refine .inr ⟨((0,[]),6),?_,.inr (.inr (.inl ⟨by omega,by omega,by omega,fun h=>by have:=h i hil; omega,rfl⟩))⟩
     simp only[ZdS,if_pos (show((i+1:Nat):Int)<(l.length:Int) by omega),wP (show i<9223372036854775807 by omega),Zi h0,Zi hil,if_pos hx]
    ·refine .inl ⟨l.length-(i+1),((i+1+1:Nat):Int),by omega,?_,i+1,rfl,by omega,?_,rfl⟩
     ·simp only[ZdS,if_pos (show((i+1:Nat):Int)<(l.length:Int) by omega),wP (show i<9223372036854775807 by omega),Zi h0,Zi hil,if_neg hx,wS (show i+1<9223372036854775807 by omega)]
     ·intro j h hji
      by_cases e:j=i
      ·subst e; omega
      ·exact hj j h (by omega)
   ·have hasc:ZoJ l:=fun j h=>hj j h (by omega)
    obtain⟨r,g1,g2⟩:=ZrI (AR:=Ze0) (fun d n v p h1 h2 h3 h4 h5=>ZyH h1 h2 h3 h4 h5) (step:=Zin l (q:Int)) (l:=l) (p:=q) (by omega) (by omega) hu (fun a i d n=>by rw[Zin,Zli]; rfl) l 0 0 [] 0 rfl VB_nil (by omega) (by omega) (asc_chain l 0 (fun h=>(hu _ (List.getElem_mem h)).1) hasc);refine .inr ⟨r,?_,.inr (.inr (.inr ⟨by omega,by omega,by omega,hasc,by simpa using g2⟩))⟩;simp only[ZdS,if_neg (show ¬ ((i+1:Nat):Int)<(l.length:Int) by omega),Zlj];rw[show((0:Nat):Int)=0 from rfl] at g1;rw[g1];rfl
theorem ZwA (l:List Int) (p:Int) (hu:U64 l) (hs:l.length<4611686018427387904):∃ r,ZbY l p=some r∧Zkd l p=some r∧ER l p r:=by
 obtain⟨r,h1,h2⟩:=Zu5 l p hu hs;obtain⟨r',h3,h4⟩:=ZtQ l p hu hs;exact⟨r,h1,by rw[h3,Zu4 h4 h2],h2⟩
end
section
set_option maxRecDepth 100000
theorem ZmU (x:Int):0≤IntKind.u64.wrap x∧IntKind.u64.wrap x≤18446744073709551615:=by
 simp[IntKind.wrap,IntKind.signed,IntKind.bits]
 omega
theorem ZoK (op:BinOp) (x y:Int):0≤bits op .u64 x y∧bits op .u64 x y≤18446744073709551615:=ZmU _
def rt (a0 a1:Int):Int:=bits .or .u64 (IntKind.u64.wrap (a0 * (2 ^ (min (bits .and .u64 (IntKind.u64.wrap (a1)) 63).toNat 64)))) ((a0).fdiv (2 ^ (min (IntKind.u64.wrap (64-(bits .and .u64 (IntKind.u64.wrap (a1)) 63))).toNat 64)))
theorem ZzJ (a b:Int):ZY a b=some (rt a b):=by
 have h1:=ZoK .and (IntKind.u64.wrap b) 63;have h2:=ZmU (64-(bits .and .u64 (IntKind.u64.wrap b) 63));rw[ZY,Zj (by omega),Zj (by omega)];rfl
def q4 (a b c d:Int):Arr 4:=⟨[a,b,c,d],rfl⟩
theorem ZyI (v:Arr 4):∃ a b c d,v=q4 a b c d:=by
 obtain⟨l,hl⟩:=v
 match l,hl with
 | [a,b,c,d],_=>exact⟨a,b,c,d,rfl⟩
section
variable {a b c d x:Int}
theorem q4p0:(q4 a b c d).put 0 x=q4 x b c d:=rfl
theorem q4p1:(q4 a b c d).put 1 x=q4 a x c d:=rfl
theorem q4p2:(q4 a b c d).put 2 x=q4 a b x d:=rfl
theorem q4p3:(q4 a b c d).put 3 x=q4 a b c x:=rfl
theorem q4a0:(q4 a b c d).at 0=a:=rfl
theorem q4a1:(q4 a b c d).at 1=b:=rfl
theorem q4a2:(q4 a b c d).at 2=c:=rfl
theorem q4a3:(q4 a b c d).at 3=d:=rfl
end
def ZwB (v:Arr 4):Arr 4 :=
 let a1:=IntKind.u64.wrap (v.at 0+v.at 1)
 let b1:=bits .xor .u64 (rt (v.at 1) 13) a1
 let c1:=IntKind.u64.wrap (v.at 2+v.at 3)
 let d1:=bits .xor .u64 (rt (v.at 3) 16) c1
 let a3:=IntKind.u64.wrap (rt a1 32+d1)
 let c2:=IntKind.u64.wrap (c1+b1)
 q4 a3 (bits .xor .u64 (rt b1 17) c2) (rt c2 32) (bits .xor .u64 (rt d1 21) a3)
def rndN:Nat→Arr 4→Arr 4
 | 0,v=>v
 | n+1,v=>rndN n (ZwB v)
theorem Zse (n:Nat) (hn:n<100):∀ (k i:Nat) (v:Arr 4),n-i=k→i≤n→Ze (Zfa (n:Int)) ((i:Int),v)=some (rndN k v):=by
 intro k;induction k with
 | zero =>
  intro i v h hi;refine Za9 ?_;simp only[Zfa,if_neg (show ¬ (i:Int)<(n:Int) by omega),Zhn];rfl
 | succ k ih =>
  intro i v h hi;rw[rndN,← ih (i+1) (ZwB v) (by omega) (by omega)];refine Z1 ?_;obtain⟨a,b,c,d,rfl⟩:=ZyI v;simp only[Zfa,if_pos (show(i:Int)<(n:Int) by omega),ZzJ,Za,q4p0,q4p1,q4p2,q4p3,q4a0,q4a1,q4a2,q4a3,ZwB,wS (show i<9223372036854775807 by omega)]
theorem Zqi (n:Nat) (hn:n<100) (v:Arr 4):Zgn v (n:Int)=some (rndN n v):=Zse n hn n 0 v (by omega) (by omega)
def ZtR (v:Arr 4) (m:Int):Arr 4 :=
 let w:=rndN 2 (v.put 3 (bits .xor .u64 (v.at 3) m))
 w.put 0 (bits .xor .u64 (w.at 0) m)
theorem Zqj (v:Arr 4) (m:Int):ZeN v m=some (ZtR v m):=by
 rw[ZeN,show(2:Int)=((2:Nat):Int) from rfl,Zqi 2 (by omega),Za];rfl
theorem ZwC (l:List Int) (h:l.length≤100000):∃ w,Zcs l=some w:=by
 rw[Zcs]
 obtain⟨r,h1,_⟩:=ZaE (step:=ZgY l) (fun m s=>∃ (w:Int) (i:Nat),s=(w,(i:Int))∧i≤l.length∧m=l.length-i) (fun _=>True) (by
  rintro m s ⟨w,i,rfl,hi,rfl⟩
  by_cases hil:i<l.length
  ·refine .inl ⟨l.length-(i+1),(bits .or .u64 w (IntKind.u64.wrap ((IntKind.u64.wrap l[i]) * (2 ^ (min (IntKind.i64.wrap (8 * (i:Int))).toNat 64)))),((i+1:Nat):Int)),by omega,?_,_,i+1,rfl,by omega,rfl⟩
   ·simp only[ZgY,if_pos (show(i:Int)<(l.length:Int) by omega)]
    rw[Zi hil,Zj (by rw[wi _ (by omega)]; omega),wS (by omega)]
  ·refine .inr ⟨w,?_,trivial⟩
   simp only[ZgY,if_neg (show ¬ (i:Int)<(l.length:Int) by omega),ZiW]
   rfl) _ (0,0) ⟨0,0,rfl,by omega,rfl⟩
 exact⟨r,h1⟩
noncomputable def wdv (l:List Int):Int:=(Zcs l).getD 0
theorem Zn4 (l:List Int) (h:l.length≤100000):Zcs l=some (wdv l):=by
 obtain⟨w,hw⟩:=ZwC l h;rw[wdv,hw];rfl
noncomputable def sumE (l:List Int) (v:Arr 4) (t:List Int):Int :=
 let w:=ZtR v (bits .or .u64 (wdv t) (IntKind.u64.wrap ((IntKind.u64.wrap (((l.length:Int)).tmod 256)) * 72057594037927936)))
 let z:=rndN 4 (w.put 2 (bits .xor .u64 (w.at 2) 255))
 bits .xor .u64 (bits .xor .u64 (bits .xor .u64 (z.at 0) (z.at 1)) (z.at 2)) (z.at 3)
noncomputable def ZnB (l:List Int):Nat→Arr 4→List Int→Int
 | 0,v,t=>sumE l v t
 | n+1,v,t=>ZnB l n (ZtR v (wdv (t.take 8))) (t.drop 8)
theorem Zpf (l:List Int):∀ (n:Nat) (v:Arr 4) (t:List Int),0≤ZnB l n v t∧ZnB l n v t≤18446744073709551615
 | 0,v,t=>by
  rw[ZnB,sumE];exact ZoK _ _ _
 | n+1,v,t=>by
  rw[ZnB];exact Zpf l n _ _
theorem ZwD (l:List Int) (hl:l.length≤100000):∀ (n i:Nat) (v:Arr 4),l.length / 8-i=n→i≤l.length / 8→Ze (Zh1 l) ((i:Int),v)=some (ZnB l n v (l.drop (8 * i))):=by
 have e8:IntKind.i64.wrap (((l.length:Int)).tdiv 8)=((l.length / 8:Nat):Int):=by rw[Zpd,wI _ (by omega)]
 intro n;induction n with
 | zero =>
  intro i v h hi;have e:i=l.length / 8:=by omega
  subst e;have e3:IntKind.i64.wrap (8 * ((l.length / 8:Nat):Int))=((8 * (l.length / 8):Nat):Int):=by rw[wi _ (by omega)]; omega
  refine Xr ?_;simp only[Zh1,e8,if_neg (show ¬ ((l.length / 8:Nat):Int)<((l.length / 8:Nat):Int) by omega),ZjZ,e3];rw[Zj (by omega),show(((8 * (l.length / 8):Nat):Int)).toNat=8 * (l.length / 8) by omega,Zn4 _ (by simp; omega),Za,Zqj,Za,show(4:Int)=((4:Nat):Int) from rfl,Zqi 4 (by omega),Za];rfl
 | succ n ih =>
  intro i v h hi;have e3:IntKind.i64.wrap (8 * (i:Int))=((8 * i:Nat):Int):=by rw[wi _ (by omega)]; omega
  have e4:IntKind.i64.wrap (((8 * i:Nat):Int)+8)=((8 * i+8:Nat):Int):=by rw[wi _ (by omega)]; omega
  have:=ih (i+1) (ZtR v (wdv ((l.drop (8 * i)).take 8))) (by omega) (by omega);rw[ZnB,List.drop_drop,show 8 * i+8=8 * (i+1) by omega,← this];refine Z1 ?_;simp only[Zh1,e8,if_pos (show(i:Int)<((l.length / 8:Nat):Int) by omega),e3,e4];rw[Zj (by omega),show(((8 * i+8:Nat):Int)).toNat=8 * i+8 by omega,show(((8 * i:Nat):Int)).toNat=8 * i by omega,List.drop_take,show 8 * i+8-8 * i=8 by omega,Zn4 _ (by simp; omega),Za,Zqj,Za,wS (by omega)]
noncomputable def ZtS (k:Arr 2) (l:List Int):Int:=ZnB l (l.length / 8) (((((zA 4).put 0 (bits .xor .u64 (k.at 0) 8317987319222330741)).put 1 (bits .xor .u64 (k.at 1) 7237128888997146477)).put 2 (bits .xor .u64 (k.at 0) 7816392313619706465)).put 3 (bits .xor .u64 (k.at 1) 8387220255154660723)) l
theorem ZyK (k:Arr 2) (l:List Int) (hl:l.length≤100000):Zjs k l=some (ZtS k l):=by
 have:=ZwD l hl (l.length / 8) 0 (((((zA 4).put 0 (bits .xor .u64 (k.at 0) 8317987319222330741)).put 1 (bits .xor .u64 (k.at 1) 7237128888997146477)).put 2 (bits .xor .u64 (k.at 0) 7816392313619706465)).put 3 (bits .xor .u64 (k.at 1) 8387220255154660723)) (by omega) (by omega);rw[Zjs,show(0:Int)=((0:Nat):Int) from rfl,this];rfl
noncomputable def scl (h n:Int):Int:=((XZ h n).map (·.1)).getD 0
theorem ZwE (h n:Int):ZiV h n=some (scl h n):=rfl
theorem Zu6 (h n:Int):0≤scl h n∧scl h n≤18446744073709551615:=ZmU _
noncomputable def Ziz (k:Arr 2) (n m:Int) (x:List Int):Int:=scl (ZtS k x) (IntKind.u64.wrap ((IntKind.u64.wrap n) * m))
theorem ZpJ (k:Arr 2) (n m:Int) (l:List (List Int)):U64 (l.map (Ziz k n m)):=by
 intro x hx;obtain⟨y,_,rfl⟩:=List.mem_map.1 hx;exact Zu6 _ _
end
section
set_option maxRecDepth 100000
theorem ZtT {K V:Type}[DecidableEq K] (k a:K) (v:V) (l:List (K×V)):XT k (ZbQ a v l)=if k=a then some v else XT k l:=by
 induction l with
 | nil=>simp[ZbQ,XT]
 | cons x l ih =>
  obtain⟨b,w⟩:=x;by_cases h1:a=b
  ·subst h1
   by_cases h2:k=a <;> simp[ZbQ,XT,h2]
  ·by_cases h2:k=b
   ·subst h2
    simp[ZbQ,XT,h1,Ne.symm h1]
   ·simp[ZbQ,XT,h1,h2,ih]
theorem Zu7 {a b:List Int}(ha:Byt a) (hb:Byt b) (h:ZkL a=ZkL b):a=b:=by
 have h1:a.map (fun n=>UInt8.ofNat n.toNat)=b.map (fun n=>UInt8.ofNat n.toNat):=by
  have:=congrArg (fun s:ByteArray=>s.data.toList) h;simpa[ZkL] using this
 have hl:a.length=b.length:=by simpa using congrArg List.length h1
 apply List.ext_getElem hl
 intro i h2 h3;have h4:=congrArg (fun l=>l[i]?) h1;simp only[List.getElem?_map,List.getElem?_eq_getElem h2,List.getElem?_eq_getElem h3,Option.map_some,Option.some.injEq] at h4;have g1:=ha _ (List.getElem_mem h2);have g2:=hb _ (List.getElem_mem h3);have h5:=congrArg UInt8.toNat h4;simp only[UInt8.toNat_ofNat'] at h5;omega
def Zpg (l:List (List Int)):Prop:=∀ x∈l,Byt x∧x.length≤100000
theorem ZrJ (l:List Int):(srt l).Perm l:=List.mergeSort_perm _ _
theorem ZpK {l:List Int}(h:U64 l):U64 (srt l):=fun x hx=>h x ((ZrJ l).mem_iff.1 hx)
theorem ZwF (l:List Int):(srt l).Pairwise (·≤·):=by
 have:=List.pairwise_mergeSort (le:=fun x y:Int=>decide (x≤y)) (fun a b c h1 h2=>by simp at *; omega) (fun a b=>by simp; omega) l;exact this.imp (fun h=>by simpa using h)
theorem ZsJ (l:List Int):ZoJ (srt l):=fun i h=>List.pairwise_iff_getElem.1 (ZwF l) i (i+1) (by omega) h (by omega)
theorem ZqD {α β:Type}(f:α→β) (l:List α) (i:Nat) (h:i<l.length):(l.take (i+1)).map f=(l.take i).map f++[f l[i]]:=by
 rw[List.take_succ_eq_append_getElem h,List.map_append];rfl
def dfs (acc:List (List Int)):List (List Int)→List (List Int)
 | []=>acc
 | x :: l=>if x∈acc then dfs acc l else dfs (acc++[x]) l
theorem dfs_snoc:∀ (l acc:List (List Int)) (x:List Int),dfs acc (l++[x])=if x∈dfs acc l then dfs acc l else dfs acc l++[x]
 | [],acc,x=>by by_cases h:x∈acc <;> simp[dfs,h]
 | y :: l,acc,x=>by
  simp only[List.cons_append,dfs];split <;> exact dfs_snoc l _ x
theorem dfs_mem:∀ (l acc:List (List Int)) (x:List Int),x∈dfs acc l↔x∈acc∨x∈l
 | [],acc,x=>by simp[dfs]
 | y :: l,acc,x=>by
  simp only[dfs];split
  ·rename_i h
   rw[dfs_mem l acc x];simp only[List.mem_cons];constructor
   ·rintro(h | h) <;> simp[h]
   ·rintro(h1 | rfl | h1) <;> simp[*]
  ·rw[dfs_mem l _ x]
   simp[or_assoc]
theorem dfs_len:∀ (l acc:List (List Int)),(dfs acc l).length≤acc.length+l.length
 | [],acc=>by simp[dfs]
 | y :: l,acc=>by
  simp only[dfs];split
  ·have:=dfs_len l acc; simp; omega
  ·have:=dfs_len l (acc++[y]); simp at this ⊢; omega
theorem ZlI {α:Type}(l:List α) (i:Nat) (h:i<l.length):l.take (i+1)=l.take i++[l[i]]:=List.take_succ_eq_append_getElem h
def BR (k:Arr 2) (l:List (List Int)) (p m:Int) (r:Tapi_Filter×Int):Prop :=
 (4096<l.length∧r=((0,[]),4))∨(l.length≤4096∧(((m<1∨1099511627776<m)∨p<0)∨32<p)∧r=((0,[]),5))∨(l.length≤4096∧¬ (((m<1∨1099511627776<m)∨p<0)∨32<p)∧ER (srt ((dfs [] l).map (Ziz k ((dfs [] l).length:Int) m))) p r)
theorem Zu8 {l:List (List Int)}(h:Zpg l):Zpg (dfs [] l):=fun x hx=>h x (by simpa using(dfs_mem l [] x).1 hx)
end
section
set_option maxRecDepth 100000
def ZnC (d:List Int) (a:Nat):Nat→Int
 | 0=>0
 | p+1=>2 * ZnC d a p+(if bt d (a+p)=true then 1 else 0)
def ones (d:List Int):Nat→Nat→Nat
 | 0,_=>0
 | f+1,a=>if bt d a=true then ones d f (a+1)+1 else 0
theorem Zqk (d:List Int):∀ (j f a:Nat),j≤f→(∀ i,i<j→bt d (a+i)=true)→ones d f a=ones d (f-j) (a+j)+j
 | 0,f,a,_,_=>rfl
 | j+1,f,a,h,hb=>by
  obtain⟨f,rfl⟩:∃ g,f=g+1:=⟨f-1,by omega⟩
  rw[ones,if_pos (by simpa using hb 0 (by omega)),Zqk d j f (a+1) (by omega) (fun i hi=>by have:=hb (i+1) (by omega); rwa[show a+(i+1)=a+1+i by omega] at this)];rw[show f+1-(j+1)=f-j by omega,show a+1+j=a+(j+1) by omega];omega
def RRS (d:List Int) (n a p:Nat):Int×Nat×Int :=
 if 65536<ones d (n-a) a then(0,0,4) else if n-(a+ones d (n-a) a)<1+p then(0,0,1) else
  (bits .or .u64 (IntKind.u64.wrap ((ones d (n-a) a:Int) * 2 ^ p)) (ZnC d (a+ones d (n-a) a+1) p),a+ones d (n-a) a+1+p,0)
def ZnD (d:List Int) (n p:Nat):Nat→Nat→Int→List Int→List Int×Int
 | 0,a,_,out=>if 8≤n-a then([],2) else if ZnC d a (n-a)=0 then(out,0) else([],3)
 | c+1,a,s,out=>if (RRS d n a p).2.2=0 then(if IntKind.u64.wrap (s+(RRS d n a p).1)<s then([],5) else ZnD d n p c (RRS d n a p).2.1 (IntKind.u64.wrap (s+(RRS d n a p).1)) (out++[IntKind.u64.wrap (s+(RRS d n a p).1)])) else([],(RRS d n a p).2.2)
def DR (f:Tapi_Filter) (p:Int):List Int×Int:=if 4096<f.1∨200000<(f.2.length:Int) then([],4) else if (f.1<0∨p<0)∨32<p then([],5) else ZnD f.2 (8 * f.2.length) p.toNat f.1.toNat 0 0 []
end
end Go.Lc
