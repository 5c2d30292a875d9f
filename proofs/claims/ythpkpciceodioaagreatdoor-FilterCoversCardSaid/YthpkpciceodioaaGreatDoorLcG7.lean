import Derived.Test.YthpkpciceodioaaGreatDoorLcG6
import Derived.Test.YthpkpciceodioaaGreatDoorLcG5
import Derived.Test.YthpkpciceodioaaGreatDoorLcG3
namespace Go.Lc
open Go.RowKit
open Go.Av
set_option linter.unusedVariables false
set_option linter.unusedSimpArgs false
section
set_option maxRecDepth 100000
def sm (a:Arr 4) (k:Nat):Prop:=0≤a.at 0∧a.at 0<2 ^ k∧a.at 1=0∧a.at 2=0∧a.at 3=0
theorem Zso (k:Nat):sm (zA 4) k:=⟨by decide,Int.pow_pos (by decide),by decide,by decide,by decide⟩
theorem Zsp {a:Arr 4}{k m:Nat}(h:sm a k) (hk:k≤m):sm a m:=by
 obtain⟨h1,h2,h3⟩:=h;exact⟨h1,by have:(2:Int) ^ k≤2 ^ m:=(by exact_mod_cast Nat.pow_le_pow_right (n:=2) (by decide) hk); omega,h3⟩
theorem ZpZ (x:Int):IntKind.u64.wrap x=x % 18446744073709551616:=by
 have:=Zhs x;unfold IntKind.wrap IntKind.bits;simp
theorem Zy0 {x:Int}{k:Nat}(hk:k≤16) (h0:0≤x) (h1:x<2 ^ k):0≤bits .or .u64 x (IntKind.u64.wrap (1 * 2 ^ k))∧bits .or .u64 x (IntKind.u64.wrap (1 * 2 ^ k))<2 ^ (k+1):=by
 obtain⟨m,rfl⟩:=Int.eq_ofNat_of_zero_le h0;have hm:m<2 ^ k:=by exact_mod_cast h1
 have hp:(2:Nat) ^ k≤65536:=Nat.pow_le_pow_right (by decide) hk;have hp1:(2:Nat) ^ (k+1)≤131072:=Nat.pow_le_pow_right (n:=2) (by decide) (show k+1≤17 by omega)
 have e0:IntKind.u64.wrap (1 * 2 ^ k)=((2 ^ k:Nat):Int):=by
  rw[Int.one_mul,ZpZ,show(2:Int) ^ k=((2 ^ k:Nat):Int) from(Int.natCast_pow 2 k).symm];generalize (2:Nat) ^ k=z at hp ⊢;omega
 rw[e0]
 have e1:bits .or .u64 (m:Int) ((2 ^ k:Nat):Int)=((m ||| 2 ^ k:Nat):Int):=by
  show IntKind.u64.wrap ((BitVec.ofInt 64 (m:Int) ||| BitVec.ofInt 64 ((2 ^ k:Nat):Int)).toNat:Int)=_
  have q1:(BitVec.ofInt 64 (m:Int)).toNat=m:=by
   simp only[BitVec.toNat_ofInt];omega
  have q2:(BitVec.ofInt 64 ((2 ^ k:Nat):Int)).toNat=2 ^ k:=by
   simp only[BitVec.toNat_ofInt];generalize (2:Nat) ^ k=z at hp ⊢;omega
  rw[BitVec.toNat_or,q1,q2,ZpZ];have:m ||| 2 ^ k<2 ^ (k+1):=Nat.or_lt_two_pow (by rw[Nat.pow_succ]; omega) (by rw[Nat.pow_succ]; have:=Nat.two_pow_pos k; omega)
  generalize m ||| 2 ^ k=z at this ⊢
  omega
 rw[e1];have:m ||| 2 ^ k<2 ^ (k+1):=Nat.or_lt_two_pow (by rw[Nat.pow_succ]; omega) (by rw[Nat.pow_succ]; have:=Nat.two_pow_pos k; omega)
 exact⟨by omega,by exact_mod_cast this⟩
theorem ZuD {a:Arr 4}(ha:dg a){n:Int}(hn:240≤n) (hn2:n≤100000):Tot (XA a n) fun r=>dg r∧sm r 16:=by
 unfold XA;refine Ze (fun _=>by omega) (fun h=>Ze (fun _=>Zb ⟨dg_zero,Zso _⟩) (fun h'=>?_));refine ZJ (I:=fun(k:Nat) (s:Int×Arr 4)=>s.1+(k:Int)=256-n∧0≤s.1∧dg s.2∧sm s.2 s.1.toNat) (n:=(256-n).toNat) ?_ ⟨by simp; omega,by simp,dg_zero,Zso _⟩;rintro k ⟨i,r⟩ ⟨h1,h2,h3,h4⟩
 dsimp only at h1 h2 h3 h4;simp only[ZdL,Zbh];rw[wi (i+n) (by omega)];refine Ze (fun h=>?_) (fun h=>?_)
 ·have e1:(i+1).toNat=i.toNat+1:=by omega
  refine(Zky a (by omega) h).bind fun y _=>Ze (fun _=>?_) (fun _=>?_)
  ·rw[Zfm h2,ZdA h2,wi (i / 64) (by omega)]
   refine Xf (by omega) (by omega) fun j hj hj4=>Zx (by omega) (Zb ⟨k-1,by omega,?_,?_,ZfH h3 hj4 (ZiJ _ _ _),?_⟩)
   ·dsimp only
    rw[wi _ (by omega)];omega
   ·dsimp only
    rw[wi _ (by omega)];omega
   ·dsimp only
    rw[wi _ (by omega),e1];obtain rfl:j=0:=by omega
    have e2:min (i % 64).toNat 64=i.toNat:=by omega
    rw[e2];obtain⟨g1,g2,g3,g4,g5⟩:=h4;have:=Zy0 (k:=i.toNat) (by omega) g1 g2;refine⟨?_,?_,?_,?_,?_⟩
    ·rw[Arr.at_put _ (by omega)]
     exact this.1
    ·rw[Arr.at_put _ (by omega)]
     exact this.2
    ·rw[Arr.at_put_ne _ (by omega)]
     exact g3
    ·rw[Arr.at_put_ne _ (by omega)]
     exact g4
    ·rw[Arr.at_put_ne _ (by omega)]
     exact g5
  ·refine Zb ⟨k-1,by omega,?_,?_,h3,?_⟩
   ·dsimp only
    rw[wi _ (by omega)];omega
   ·dsimp only
    rw[wi _ (by omega)];omega
   ·dsimp only
    rw[wi _ (by omega),e1];exact Zsp h4 (by omega)
 ·exact Tot.out (Zb ⟨h3,Zsp h4 (by omega)⟩)
theorem ZuE {a:Arr 4}(h:sm a 16){n:Int}(h0:16≤n) (h1:n<256):Tot (XY a n) fun r=>r=false:=by
 unfold XY;rw[Zfm (by omega),ZdA (by omega),wi (n / 64) (by omega)];refine Xf (by omega) (by omega) fun j hj hj4=>Zx (by omega) (Zb ?_)
 have e:(a.at j).fdiv (2 ^ (min (n % 64).toNat 64))=0:=by
  obtain⟨g1,g2,g3,g4,g5⟩:=h;have hpos:(0:Int)<2 ^ (min (n % 64).toNat 64):=Int.pow_pos (by decide);have:j=0∨j=1∨j=2∨j=3:=by omega
  rcases this with rfl | rfl | rfl | rfl
  ·rw[Int.fdiv_eq_ediv_of_nonneg _ (by omega)]
   refine Int.ediv_eq_zero_of_lt g1 (Int.lt_of_lt_of_le g2 ?_)
   exact_mod_cast Nat.pow_le_pow_right (n:=2) (by decide) (show 16≤min (n % 64).toNat 64 by omega)
  ·rw[g3]; simp
  ·rw[g4]; simp
  ·rw[g5]; simp
 rw[e];decide
theorem ZuF {a:Arr 4}(h:sm a 16):Tot (Zap a) fun r=>r≤16:=by
 unfold Zap;refine ZJ (I:=fun(n:Nat) (s:Int)=>s+1=(n:Int)∧s≤255) (n:=256) ?_ ⟨by omega,by omega⟩;rintro n s ⟨hs,hs2⟩
 simp only[ZdM];refine Ze (fun h0=>?_) (fun h0=>Tot.out (Zb (by omega)));by_cases h16:16≤s
 ·refine(ZuE h h16 (by omega)).bind fun y hy=>Ze (fun hy2=>?_) (fun _=>?_)
  ·rw[hy] at hy2
   cases hy2
  ·exact Zb ⟨n-1,by omega,by rw[wi _ (by omega)]; omega,by rw[wi _ (by omega)]; omega⟩
 ·refine(Zky a h0 (by omega)).bind fun y hy=>Ze (fun hy2=>?_) (fun _=>?_)
  ·exact Zb (show IntKind.i64.wrap (s+1)≤16 by rw[wi (s+1) (by omega)]; omega)
  ·exact Zb ⟨n-1,by omega,by rw[wi _ (by omega)]; omega,by rw[wi _ (by omega)]; omega⟩
theorem ZrM {a:Arr 4}(ha:dg a):Tot (Zc8 a) M32:=by
 unfold Zc8;refine(Zk2 a).bind fun y _=>Ze (fun _=>Zb ⟨by omega,by omega⟩) (fun _=>?_)
 refine ZJ (I:=fun(n:Nat) (s:Int)=>s+(n:Int)=33∧1≤s) (n:=32) ?_ ⟨by omega,by omega⟩;rintro n s ⟨h1,h2⟩
 have nxt:1≤n→Nx (fun(n:Nat) (s:Int)=>s+(n:Int)=33∧1≤s) M32 n (.inl (IntKind.i64.wrap (s+1))):=fun hn =>
  ⟨n-1,by omega,by rw[wi _ (by omega)]; omega,by rw[wi _ (by omega)]; omega⟩
 have key:∀ r,1≤n∨sm r 16→Tot (Za9 s r) (Nx (fun(n:Nat) (s:Int)=>s+(n:Int)=33∧1≤s) M32 n):=by
  intro r hr;unfold Za9;rcases hr with hr | hr
  ·exact(Zsj r).bind fun z _=>Ze (fun _=>Zb (Zuv _ _ _)) (fun _=>Zb (nxt hr))
  ·exact(ZuF hr).bind fun z hz=>Ze (fun _=>Zb (Zuv _ _ _)) (fun h=>absurd (show z≤23 by omega) h)
 simp only[Zg1];refine Ze (fun h3=>?_) (fun h3=>?_)
 ·rw[wi (3-s) (by omega),wi (8 * (3-s)) (by omega)]
  refine(Zsl ha (by omega)).bind fun u hu=>(Znu hu _).bind fun v hv=>(Zkz _ _).bind fun w _=>Ze (fun _=>Zb (nxt (by omega))) (fun _=>key u (.inl (by omega)))
 ·rw[wi (s-3) (by omega),wi (8 * (s-3)) (by omega)]
  by_cases h33:s=33
  ·exact(ZuD ha (by omega) (by omega)).bind fun u hu=>key u (.inr hu.2)
  ·exact(Znu ha _).bind fun u hu=>key u (.inl (by omega))
theorem Zto {p:Tapi_Params}(hp:PrmOk p){b:Int}(hb:M32 b) (x y:Int):Tot (ZdP p b x y) fun r=>M32 r.1:=by
 unfold ZdP;refine(Zep hp).bind fun v _=>Ze (fun _=>Zb ⟨by simp,by simp⟩) (fun _=>?_)
 refine(Zmq hb).bind fun t ht=>Ze (fun _=>Zb ⟨by simp,by simp⟩) (fun _=>?_)
 have k3:∀ a,dg a→Tot (Zdw a) fun r=>M32 r.1:=fun a ha=>by
  unfold Zdw;exact(ZrM ha).bind fun z hz=>Zb hz
 have k2:∀ a,dg a→Tot (Zdx a) fun r=>M32 r.1:=fun a ha=>by
  unfold Zdx;refine(Zk2 a).bind fun z _=>Ze (fun _=>?_) (fun _=>k3 a ha)
  rw[Zmp,Za];exact k3 _ (Znt ⟨by omega,by omega⟩)
 have k1:∀ q,M64 q→Tot (Zdy p t q) fun r=>M32 r.1:=fun q hq=>by
  unfold Zdy;rw[Zmp,Za]
  have hd:∀ c d e:Int,M64 c→M64 d→M64 e→M64 (if c<(if q<d then e else q) then c else(if q<d then e else q)):=by
   intro c d e hc hd he
   have h1:M64 (if q<d then e else q):=by
    split
    ·exact he
    ·exact hq
   generalize (if q<d then e else q)=w at h1 ⊢;split
   ·exact hc
   ·exact h1
  refine(Zw7 ht (Znt (hd _ _ _ (Zhs _) (Zhs _) (Zhs _)))).bind fun m hm=>?_
  rw[Zmp,Za];refine(Zw9 hm.1 hm.2 (Znt (Zhs _))).bind fun z hz=>?_
  have h5:Tot (if ¬ (z.2.2=true) then some false else(YL z.1 p.2.1).bind fun y8=>some (decide (0<y8))) fun _=>True :=
   Ze (fun _=>Zb trivial) (fun _=>(Zkz _ _).bind fun _ _=>Zb trivial)
  exact h5.bind fun _ _=>Ze (fun _=>k2 _ hp.lim) (fun _=>k2 _ hz)
 exact Ze (fun _=>k1 _ (Zhs _)) (fun _=>k1 _ ⟨by omega,by omega⟩)
theorem ZoI {p:Tapi_Params}(hp:PrmOk p){c:Tapi_Context}(hb:M32 c.2.2.1):Tot (Zdz p c) fun r=>M32 r.1:=by
 unfold Zdz;refine(Zep hp).bind fun v _=>Ze (fun _=>Zb ⟨by simp,by simp⟩) (fun h=>?_)
 have hw:=hp.win;refine Zx (by omega) (Ze (fun _=>Zb hb) (fun _=>?_));have hl:0<c.2.2.2.2.length∧c.2.2.2.2.length≤11:=by omega
 rw[wi _ (by omega)];exact X0 (by omega) (by omega) fun x _=>(Zto hp hb _ _).bind fun z hz=>Zb hz
theorem ZoJ (l:List Int) (hl:l.length≤1000):Tot (Zcr l) fun _=>True:=by
 unfold Zcr;refine ZJ (I:=fun(n:Nat) (s:Int×List Int)=>s.1+(n:Int)=(l.length:Int)∧0≤s.1∧(s.2.length:Int)=s.1) (n:=l.length) ?_ ⟨by simp,by simp,by simp⟩;rintro n ⟨i,acc⟩ ⟨h1,h2,h3⟩
 dsimp only at h1 h2 h3;simp only[ZhR];refine Ze (fun h=>?_) (fun h=>?_)
 ·refine X0 h2 h fun x _=>?_
  refine ZJ (I:=fun(k:Nat) (s:Int)=>s+(k:Int)=(acc.length:Int)∧0≤s) (n:=acc.length) ?_ ⟨by omega,by omega⟩;rintro k s ⟨k1,k2⟩
  simp only[ZhQ]
  have h5:Tot (if s<(acc.length:Int) then(inA (acc.length) s).bind fun j64=>(acc[j64]?).bind fun x65=>some (decide (x65≤x)) else some false) fun _=>True :=
   Ze (fun hs=>Xf k2 hs fun j _ hj=>ZdR hj fun _ _=>Zb trivial) (fun _=>Zb trivial)
  refine h5.bind fun z _=>Ze (fun hz=>?_) (fun hz=>?_)
  ·exact Zb ⟨k-1,by omega,by rw[wi _ (by omega)]; omega,by rw[wi _ (by omega)]; omega⟩
  ·refine Tot.out ?_
   unfold Zdr;refine Zx (by omega) (Zx (by omega) (Zx ?_ (Zx ?_ (Zb ⟨n-1,by omega,?_,?_,?_⟩))))
   ·simp only[List.length_take,List.length_drop]
    omega
   ·simp only[List.length_take,List.length_drop]
    omega
   ·dsimp only
    rw[wi _ (by omega)];omega
   ·dsimp only
    rw[wi _ (by omega)];omega
   ·dsimp only
    rw[wi _ (by omega)];simp only[List.length_append,List.length_take,List.length_drop,List.length_cons,List.length_nil];omega
 ·refine Tot.out ?_
  unfold ZhP;refine Ze (fun _=>Zb trivial) (fun _=>?_);rw[Zfm (by omega),wi _ (by omega)];exact Xf (by omega) (by omega) fun j _ hj=>ZdR hj fun _ _=>Zb trivial
theorem ZvY {p:Tapi_Params}(hp:PrmOk p){c:Tapi_Context}(hb:M32 c.2.2.1) (ht:c.2.2.2.2.length≤1000) (r:Arr 32) (y:Int):Tot (Zf0 p c r y) fun h=>M32 h.2.2.2.2.1:=by
 unfold Zf0;refine(ZoI hp hb).bind fun b hb=>(ZoJ _ ht).bind fun m _=>?_
 refine ZJ (I:=fun(n:Nat) (s:Int)=>s+(n:Int)=20000∧0≤s) (n:=20000) ?_ ⟨by omega,by omega⟩;rintro n s ⟨h1,h2⟩
 simp only[Zi1];refine Ze (fun h=>?_) (fun h=>Tot.out (Zb hb));rw[Zd8,Za];refine(ZpV _ hb).bind fun z _=>Ze (fun _=>Zb hb) (fun _=>Zb ⟨n-1,by omega,?_,?_⟩)
 ·rw[Zjf]
  omega
 ·rw[Zjf]
  omega
end
section
set_option maxRecDepth 100000
def Zrl (w:List (List Int)):Prop:=∃ k,(1≤k∧k≤6)∧w=[[k]]
theorem Ztp {a:Int}(h0:0≤a):∃ j,Zag a=some [1,1,j,5]∧1≤j∧j≤6:=by
 unfold Zag;rw[ZdA h0,Zbb];exact⟨_,rfl,by omega,by omega⟩
theorem Zlt {a:Int}(h0:0≤a):Tot (Zag a) ScrM:=by
 obtain⟨j,h,hj⟩:=Ztp h0;exact⟨_,h,j,hj,rfl⟩
theorem ZvZ {s:List Int}{w:List (List Int)}(hs:ScrM s) (hw:Zrl w) (e:Tapi_Env):Tot (ZaJ s w e) fun _=>True:=by
 obtain⟨j,hj,rfl⟩:=hs;obtain⟨k,hk,rfl⟩:=hw;unfold ZaJ;rw[if_pos ⟨j,k,hj,hk,rfl,rfl⟩];exact Zb trivial
theorem Zrm (o:Tapi_Output):(Zgw o).length≤17+o.2.length:=by
 have:=Zme o.2;unfold Zgw;rw[List.length_append,Zek];omega
theorem Ztq (b:ByteArray) (hb:b.size≤1000){l:List Int}(hl:l.length≤1000000):Tot (Zaq b l) fun _=>True:=by
 unfold Zaq
 have e:(ZkN b).length≤1000:=by
  unfold ZkN;rw[List.length_map,Array.length_toList];exact hb
 refine Zx (by omega) ?_;rw[ZgT (by omega),Za];have h32:(X7 (ZkN b)).l.length=32:=(X7 (ZkN b)).hl;refine Zx (by omega) (Zx (by omega) (Zx (by omega) ?_));rw[ZgT (by simp only[List.length_append]; omega),Za];exact Zb trivial
theorem ZrN (t:Tapi_Tx) (i:Int) (o:Tapi_Output):Tot (Zc9 t i o) fun r=>r.2=0→0≤i∧i<t.2.1.length:=by
 unfold Zc9;rw[Za2,Za];refine Ze (fun _=>Zb (by simp)) (fun h=>Ze (fun _=>Zb (by simp)) (fun hi=>?_))
 have hf:ZK t=true:=by
  apply Decidable.byContradiction
  intro c;exact h (.inl (.inl c))
 have hso:o.2.length≤520:=by
  apply Decidable.byContradiction
  intro c;exact h (.inr (by omega))
 obtain⟨l1,l2,l3,l4⟩:=Zjd hf;refine ZJ (I:=fun(n:Nat) (s:Int×List Int×List Int)=>s.1+(n:Int)=(t.2.1.length:Int)∧0≤s.1∧(s.2.1.length:Int)=36 * s.1∧(s.2.2.length:Int)=4 * s.1) (n:=t.2.1.length) ?_ ⟨by simp,by simp,by simp,by simp⟩;rintro n ⟨k,a,b⟩ ⟨h1,h2,h3,h4⟩
 dsimp only at h1 h2 h3 h4;simp only[Zg3];refine Ze (fun hk=>?_) (fun hk=>?_)
 ·refine X0 h2 hk fun x _=>?_
  rw[Zla,Za];have hp:=Zmf x.1;refine Zx (by omega) ?_;rw[Zba (by omega),Za];refine Zb ⟨n-1,by omega,?_,?_,?_,?_⟩
  ·dsimp only
   rw[wi _ (by omega)];omega
  ·dsimp only
   rw[wi _ (by omega)];omega
  ·dsimp only
   rw[wi _ (by omega),List.length_append];omega
  ·dsimp only
   rw[wi _ (by omega),List.length_append,Zek];omega
 ·refine Tot.out ?_
  unfold ZcC;refine ZJ (I:=fun(n:Nat) (s:Int×List Int)=>s.1+(n:Int)=(t.2.2.1.length:Int)∧0≤s.1∧(s.2.length:Int)≤1000 * s.1) (n:=t.2.2.1.length) ?_ ⟨by simp,by simp,by simp⟩;rintro m ⟨q,c⟩ ⟨g1,g2,g3⟩
  dsimp only at g1 g2 g3;simp only[Zg2];refine Ze (fun hq=>?_) (fun hq=>?_)
  ·refine X0 g2 hq fun x hx=>?_
   have hx5:=(l3 x hx).2;rw[Zo2 (by omega),Za]
   have ho:(Zgw x).length≤1000:=by
    have:=Zrm x;omega
   refine Zx (by omega) (Zb ⟨m-1,by omega,?_,?_,?_⟩)
   ·dsimp only
    rw[wi _ (by omega)];omega
   ·dsimp only
    rw[wi _ (by omega)];omega
   ·dsimp only
    rw[wi _ (by omega),List.length_append];omega
  ·refine Tot.out ?_
   unfold ZcB;have z1:(X7 a).l.length=32:=(X7 a).hl;have z2:(X7 b).l.length=32:=(X7 b).hl;have z3:(X7 c).l.length=32:=(X7 c).hl;rw[Zba (by simp),Za,ZgT (by omega),Za,Zgv (by simp),Za,ZgT (by omega),Za,Zgv (by simp),Za,ZgT (by omega),Za,Zgv (by simp),Za,Zba (by simp),Za,Zba (by simp),Za,Zo2 (by omega),Za]
   have ho:(Zgw o).length≤1000:=by
    have:=Zrm o;omega
   refine Zx (by simp; omega) ?_;refine(Ztq _ (by decide) (by simp; omega)).bind fun z _=>Zb fun _=>?_
   omega
theorem ZuG {t:Tapi_Tx}{i:Int}{c:Tapi_Coin}{h:Int}(hs:ScrM c.2.1.2) (hw:∀ x∈t.2.1,Zrl x.2.2):Tot (ZeQ t i c h) fun _=>True:=by
 unfold ZeQ;refine(ZrN t i c.2.1).bind fun m hm=>Ze (fun _=>Zb trivial) (fun h0=>?_)
 have hi:=hm (Decidable.byContradiction h0);refine X0 hi.1 hi.2 fun x hx=>Ze (fun _=>Zb trivial) (fun _=>Ze (fun _=>Zb trivial) (fun _=>?_))
 exact(ZvZ hs (hw x hx) _).bind fun _ _=>Zb trivial
theorem ZrO {t:Tapi_Tx}{l:List Tapi_Coin}{h:Int}(hl:l.length≤1000000) (ht:t.2.1.length≤1000) (hs:∀ c∈l,ScrM c.2.1.2) (hw:∀ x∈t.2.1,Zrl x.2.2):Tot (ZeR t l h) fun _=>True:=by
 unfold ZeR;rw[ZmX,Za];refine Ze (fun _=>Zb trivial) (fun _=>?_);obtain⟨r,-,hr⟩:=Zvt t l;rw[hr,Za];refine Ze (fun _=>Zb trivial) (fun _=>(ZpX t ht h).bind fun y _=>Ze (fun _=>Zb trivial) (fun _=>?_));refine Y6 l (fun _=>True) (by omega) trivial ?_ ?_
 ·intro i hi _
  simp only[Zgj];rw[if_pos (by omega),Zh hi];exact(ZuG (hs _ (List.getElem_mem hi)) hw).bind fun z _=>Ze (fun _=>Zb trivial) (fun _=>Zb ⟨Zo hi (by omega),trivial⟩)
 ·intro _
  simp only[Zgj];rw[if_neg (by omega)];exact⟨_,rfl,trivial⟩
structure TxM (t:Tapi_Tx):Prop where
 ins:t.2.1.length=1
 wit:∀ x∈t.2.1,Zrl x.2.2∧Byt x.1.1.l
 outs:t.2.2.1.length≤2
 scr:∀ o∈t.2.2.1,ScrM o.2
theorem Zx6 {s:List Int}(h:ScrM s):∃ j,(1≤j∧j≤6)∧Zh6 s=some [[j]]:=by
 obtain⟨j,hj,rfl⟩:=h;refine⟨j,hj,?_⟩;unfold Zh6;rw[if_neg (by simp)];rfl
theorem ZuH {c:Tapi_Coin}(hc:Zkm c){a:Int}(h0:0≤a):Tot (ZfZ c a) fun r=>TxM r.1:=by
 obtain⟨hb,hs⟩:=hc;obtain⟨j,hj,e⟩:=Zx6 hs;unfold ZfZ;rw[e,Za]
 have k1:∀ p (q:List Tapi_Output),q.length≤1→(∀ o∈q,ScrM o.2)→Tot (ZeO a c [[j]] p q) fun r=>TxM r.1:=by
  intro p q hq hq2;unfold ZeO;refine(Zlt (by rw[Zbb]; omega)).bind fun y hy=>Zx (by omega) (Zb ⟨rfl,?_,?_,?_⟩)
  ·intro x hx
   obtain rfl:=List.mem_singleton.1 hx;exact⟨⟨j,hj,rfl⟩,hb⟩
  ·simp
   omega
  ·intro o ho
   rcases List.mem_append.1 ho with ho | ho
   ·exact hq2 o ho
   ·obtain rfl:=List.mem_singleton.1 ho
    exact hy
 refine Ze (fun _=>?_) (fun _=>k1 _ _ (by simp) (by simp));refine(Zlt (by rw[Zbb]; omega)).bind fun y hy=>k1 _ _ (by simp) ?_
 intro o ho;obtain rfl:=List.mem_singleton.1 ho;exact hy
end
section
set_option maxRecDepth 100000
theorem Zph (n:Nat):Byt (zA n).l:=by
 intro x hx
 have:x=0:=by
  simp only[zA] at hx;exact List.eq_of_mem_replicate hx
 omega
theorem Zrn (h:Arr 8):∀ k,Byt (Zjg h k).l
 | 0=>Zph 32
 | k+1=>by
  intro x hx;rcases List.mem_or_eq_of_mem_set hx with hx | rfl
  ·exact Zrn h k x hx
  ·unfold byt
   rw[Zbb];omega
theorem Zv0 (l:List Int):Byt (X7 l).l:=Zrn _ 32
theorem Zsq (t:Tapi_Tx):Byt (idS t).l:=by
 unfold idS;split
 ·exact Zv0 _
 ·exact Zph 32
theorem Zxa {p:Tapi_Params}{l:Tapi_Ledger}{a:Int}(hl:l.2.2.length≤100000) (hc:∀ c∈l.2.2,Zkm c) (h0:0≤a∧a≤255):Tot (YQ p l a) fun r=>r.1.length≤3∧∀ t∈r.1,TxM t:=by
 unfold YQ;refine Zx (by omega) ?_;refine ZJ (I:=fun(n:Nat) (s:Int×Int×List Tapi_Tx×List Tapi_Coin)=>s.2.1+(n:Int)=3∧0≤s.2.1∧((s.2.2.1.length:Int)≤s.2.1∧∀ t∈s.2.2.1,TxM t)∧(s.2.2.2.length:Int)≤100000+2 * s.2.1∧∀ c∈s.2.2.2,Zkm c) (n:=3) ?_ ⟨by simp,by simp,⟨by simp,by simp⟩,by dsimp only; omega,hc⟩;rintro n ⟨fe,k,txs,cs⟩ ⟨h1,h2,⟨h3,h4⟩,h5,h6⟩
 dsimp only at h1 h2 h3 h4 h5 h6;simp only[Zeh];rw[ZdA h0.1];refine Ze (fun hk=>?_) (fun hk=>Tot.out (Zb ⟨by dsimp only; omega,h4⟩));have hu:0≤IntKind.u8.wrap (a.tdiv 4)∧IntKind.u8.wrap (a.tdiv 4)≤255:=by rw[Zbb]; omega
 refine ZJ (I:=fun(m:Nat) (s:Int)=>s+(m:Int)=(cs.length:Int)∧0≤s) (n:=cs.length) ?_ ⟨by omega,by omega⟩;rintro m i ⟨g1,g2⟩
 simp only[Zeg];generalize IntKind.u8.wrap (a.tdiv 4)=u at hu ⊢;rw[wi u (by omega),wi k (by omega),wi (u+k) (by omega),wi (u+k+i) (by omega),ZdA (n:=u+k+i) (by omega)];refine Ze (fun hi=>?_) (fun hi=>?_)
 ·have he:0≤(u+k+i) % (cs.length:Int)∧(u+k+i) % (cs.length:Int)<cs.length:=⟨Int.emod_nonneg _ (by omega),Int.emod_lt_of_pos _ (by omega)⟩
  generalize (u+k+i) % (cs.length:Int)=e at he ⊢;refine Zx (by omega) (Xf he.1 he.2 fun j hj hjl=>ZdR hjl fun c hcj=>Ze (fun _=>?_) (fun _=>?_))
  ·exact Zb ⟨m-1,by omega,by rw[wi _ (by omega)]; omega,by rw[wi _ (by omega)]; omega⟩
  ·have hcm:=h6 c (List.mem_of_getElem? hcj)
   refine(ZuH hcm (by rw[Zbb]; omega)).bind fun y hy=>?_
   have ho:=hy.outs;rw[wi (e+1) (by omega)];refine Zx (by omega) (Zx (by omega) (Zx (by omega) (Zx (by simp; omega) ?_)));rw[Zri,Za];refine ZJ (I:=fun(q:Nat) (s:Int×List Tapi_Coin)=>s.1+(q:Int)=(y.1.2.2.1.length:Int)∧0≤s.1∧(s.2.length:Int)≤100000+2 * k+s.1∧∀ c∈s.2,Zkm c) (n:=y.1.2.2.1.length) ?_ ⟨by simp,by simp,by simp; omega,?_⟩
   ·rintro q ⟨b,ds⟩ ⟨d1,d2,d3,d4⟩
    dsimp only at d1 d2 d3 d4;simp only[ZbP];refine Ze (fun hb=>?_) (fun hb=>?_)
    ·refine Xf d2 hb fun z hz hzl=>ZdR hzl fun o hoz=>Zx (by omega) (Zb ⟨q-1,by omega,?_,?_,?_,?_⟩)
     ·dsimp only
      rw[wi _ (by omega)];omega
     ·dsimp only
      rw[wi _ (by omega)];omega
     ·dsimp only
      rw[wi (b+1) (by omega),List.length_append];simp
      omega
     ·intro c' hc'
      rcases List.mem_append.1 hc' with hc' | hc'
      ·exact d4 c' hc'
      ·obtain rfl:=List.mem_singleton.1 hc'
       exact⟨Zsq _,hy.scr o (List.mem_of_getElem? hoz)⟩
    ·refine Tot.out ?_
     unfold ZbO;refine Tot.out ?_;unfold Y5;refine Zb ⟨n-1,by omega,?_,?_,⟨?_,?_⟩,?_,d4⟩
     ·dsimp only
      rw[Zbb];omega
     ·dsimp only
      rw[Zbb];omega
     ·dsimp only
      rw[Zbb,List.length_append];simp
      omega
     ·intro t ht
      rcases List.mem_append.1 ht with ht | ht
      ·exact h4 t ht
      ·obtain rfl:=List.mem_singleton.1 ht
       exact hy
     ·dsimp only
      rw[Zbb];omega
   ·intro c' hc'
    rcases List.mem_append.1 hc' with hc' | hc'
    ·exact h6 c' (List.mem_of_mem_take hc')
    ·exact h6 c' (List.mem_of_mem_drop (List.mem_of_mem_take hc'))
 ·refine Tot.out ?_
  unfold Y5;refine Zb ⟨n-1,by omega,?_,?_,⟨?_,h4⟩,?_,h6⟩
  ·dsimp only
   rw[Zbb];omega
  ·dsimp only
   rw[Zbb];omega
  ·dsimp only
   rw[Zbb];omega
  ·dsimp only
   rw[Zbb];omega
structure BlkM (b:Tapi_Block):Prop where
 bits:M32 b.1.2.2.2.2.1
 len:b.2.length≤4
 one:∀ t∈b.2,t.2.1.length=1∧t.2.2.1.length≤2∧(∀ x∈t.2.1,Byt x.1.1.l)∧∀ o∈t.2.2.1,ScrM o.2
 wit:∀ i (h:i<b.2.length),0<i→∀ x∈b.2[i].2.1,Zrl x.2.2
structure Zm9 (c:Tapi_Context):Prop where
 bits:M32 c.2.2.1
 times:c.2.2.2.2.length≤100
structure Zpi (l:Tapi_Ledger):Prop where
 len:l.2.2.length≤100000
 coins:∀ c∈l.2.2,Zkm c
theorem ZuI {p:Tapi_Params}(hp:PrmOk p){l:Tapi_Ledger}(hl:Zpi l) (hh:0≤l.1∧l.1≤1000000){c:Tapi_Context}(hc:Zm9 c){a:Int}(h0:0≤a∧a≤255):Tot (ZeP p l c a) BlkM:=by
 unfold ZeP;refine(Zxa hl.len hl.coins h0).bind fun y hy=>?_
 rw[wi (l.1+1) (by omega)];refine(ZnI hp (by omega)).bind fun s hs=>(Zlt (by rw[Zbb]; omega)).bind fun z hz=>?_
 have e1:ZeG (l.1+1) (IntKind.i64.wrap (s+y.2)) z=some (1,[((zA 32,4294967295),IntKind.u32.wrap (l.1+1),[])],[(IntKind.i64.wrap (s+y.2),z)],0):=rfl;rw[e1,Za];refine Zx (by omega) ((ZoH _ (by simp; omega)).bind fun r _=>?_);have e2:∃ q,ZfD a=some q:=⟨_,rfl⟩
 obtain⟨q,e2⟩:=e2;rw[e2,Za];refine(ZvY hp hc.bits (by have:=hc.times; omega) r q).bind fun h hb=>Zb ⟨hb,?_,?_,?_⟩
 ·simp
  omega
 ·intro t ht
  rcases List.mem_append.1 ht with ht | ht
  ·obtain rfl:=List.mem_singleton.1 ht
   refine⟨rfl,by simp,?_,?_⟩
   ·intro x hx
    obtain rfl:=List.mem_singleton.1 hx;exact Zph 32
   ·intro o ho
    obtain rfl:=List.mem_singleton.1 ho;exact hz
  ·have:=hy.2 t ht
   exact⟨this.ins,this.outs,fun x hx=>(this.wit x hx).2,this.scr⟩
 ·intro i hi hpos x hx
  obtain⟨i,rfl⟩:∃ k,i=k+1:=⟨i-1,by omega⟩
  simp only[List.singleton_append,List.getElem_cons_succ] at hx;exact((hy.2 _ (List.getElem_mem _)).wit x hx).1
end
section
set_option maxRecDepth 100000
theorem ZrP {p:Tapi_Params}(hp:PrmOk p){l:Tapi_Ledger}(hl:Zpi l) (hh:0≤l.1∧l.1≤1000000){b:Tapi_Block}(hb:BlkM b):Tot (Zck p l b) fun r=>r.2.2=0→Zoa b∧Zpi r.1∧r.1.1=l.1+1:=by
 unfold Zck;refine(ZuB hp l (by have:=hl.len; omega) b).bind fun e he=>Ze (fun h=>Zb fun h'=>absurd h' h) (fun h=>?_)
 have hB:=he (Decidable.byContradiction h);rw[Zd8,Za,wi (l.1+1) (by omega)];have hlen:=hb.len;have hpos:0<b.2.length:=List.length_pos_iff.2 hB.ne;refine(ZnI hp (by omega)).bind fun su _=>?_
 refine ZJ (I:=fun(n:Nat) (s:Int×Int×List Tapi_Coin×List Tapi_Coin)=>s.2.1+(n:Int)=(b.2.length:Int)∧0≤s.2.1∧((s.2.2.1.length:Int)≤100000+2 * s.2.1∧∀ c∈s.2.2.1,Zkm c)∧(s.2.2.2.length:Int)≤s.2.1) (n:=b.2.length) ?_ ⟨by simp,by simp,⟨by have:=hl.len; dsimp only; omega,hl.coins⟩,by simp⟩;rintro n ⟨mo,i,cs,sp⟩ ⟨h1,h2,⟨h3,h4⟩,h5⟩
 dsimp only at h1 h2 h3 h4 h5;simp only[Zgu];rw[wi (l.1+1) (by omega)];refine Ze (fun hi=>?_) (fun hi=>?_)
 ·obtain⟨k,rfl⟩:=Int.eq_ofNat_of_zero_le h2
  have hk:k<b.2.length:=by omega
  rw[Zh hk];have ht:=hb.one _ (List.getElem_mem hk);have hw:=hb.wit k hk;generalize b.2[k]=t at ht hw ⊢;obtain⟨t1,t2,t3,t4⟩:=ht
  have k2:∀ (m:Int) (ds es:List Tapi_Coin),ds.length≤100000+2 * k→(∀ c∈ds,Zkm c)→es.length≤k+1→Tot (XQ t l (k:Int) m ds es) (Nx (fun(n:Nat) (s:Int×Int×List Tapi_Coin×List Tapi_Coin)=>s.2.1+(n:Int)=(b.2.length:Int)∧0≤s.2.1∧((s.2.2.1.length:Int)≤100000+2 * s.2.1∧∀ c∈s.2.2.1,Zkm c)∧(s.2.2.2.length:Int)≤s.2.1) (fun r=>r.2.2=0→Zoa b∧Zpi r.1∧r.1.1=l.1+1) n):=by
   intro m ds es hd1 hd2 he;unfold XQ;rw[wi (l.1+1) (by omega)];refine(Zuz (by omega) (by omega) (fun o ho=>by have:=(t4 o ho).len; omega) _).bind fun r hr=>Ze (fun h=>Zb fun h'=>absurd h' h) (fun h=>?_)
   obtain⟨r1,r2⟩:=hr (Decidable.byContradiction h);refine Zb ⟨n-1,by omega,?_,?_,⟨?_,?_⟩,?_⟩
   ·dsimp only
    rw[wi _ (by omega)];omega
   ·dsimp only
    rw[wi _ (by omega)];omega
   ·dsimp only
    rw[wi _ (by omega)];omega
   ·intro c hc
    rcases r2 c hc with hc | ⟨hc,o,ho,e⟩
    ·exact hd2 c hc
    ·refine⟨?_,?_⟩
     ·rw[hc]
      exact Zsq t
     ·rw[e]
      exact t4 o ho
   ·dsimp only
    rw[wi _ (by omega)];omega
  refine Ze (fun hpos'=>?_) (fun _=>k2 _ _ _ (by omega) h4 (by omega));refine(ZuA (by omega) (fun c hc=>by have:=(h4 c hc).2.len; omega) (by omega) _).bind fun y hy=>Ze (fun h=>Zb fun h'=>absurd h' h) (fun h=>?_)
  obtain⟨y1,y2,y3⟩:=hy (Decidable.byContradiction h);refine(ZrO (by omega) (by omega) (fun c hc=>(h4 c (y2 c hc)).2) (hw (by omega))).bind fun z _=>Ze (fun h=>Zb fun h'=>absurd h' h) (fun _=>?_)
  refine ZJ (I:=fun(q:Nat) (s:Int×List Tapi_Coin)=>s.1+(q:Int)=1∧0≤s.1∧(s.1=0→s.2=cs)∧(s.2.length:Int)≤100000+2 * k∧∀ c∈s.2,Zkm c) (n:=1) ?_ ⟨by simp,by simp,fun _=>rfl,by dsimp only; omega,h4⟩;rintro q ⟨a,ds⟩ ⟨d1,d2,d3,d4,d5⟩
  dsimp only at d1 d2 d3 d4 d5;simp only[Zgt];refine Ze (fun ha=>?_) (fun ha=>?_)
  ·obtain rfl:=d3 (by omega)
   refine X0 d2 ha fun c hc=>?_
   refine(Zob ds c.1 (by omega)).bind fun f hf=>?_
   rcases hf with ⟨_,hf⟩ | ⟨j,hj,rfl,_⟩
   ·exact absurd rfl (hf c (y2 c hc))
   ·rw[Ztn hj (by omega),Za]
    refine Zb ⟨q-1,by omega,?_,?_,?_,?_,?_⟩
    ·dsimp only
     rw[wi _ (by omega)];omega
    ·dsimp only
     rw[wi _ (by omega)];omega
    ·dsimp only
     rw[wi _ (by omega)];omega
    ·dsimp only
     simp only[List.length_append,List.length_take,List.length_drop];omega
    ·intro c' hc'
     rcases List.mem_append.1 hc' with hc' | hc'
     ·exact d5 c' (List.mem_of_mem_take hc')
     ·exact d5 c' (List.mem_of_mem_drop hc')
  ·refine Tot.out ?_
   unfold Zgs;exact Zx (by omega) (k2 _ _ _ (by omega) d5 (by rw[List.length_append]; omega))
 ·refine Tot.out ?_
  unfold Zgr;rw[wi (l.1+1) (by omega)];refine ZdR hpos fun x hx=>?_
  have hx' := hb.one x (List.mem_of_getElem? hx);refine(Zls x (by omega) _).bind fun o ho=>(ZpY o (by omega)).bind fun v _=>Ze (fun _=>Zb fun h'=>absurd h' (by simp)) (fun _=>?_)
  refine(ZpY cs (by omega)).bind fun w _=>Ze (fun _=>Zb fun h'=>absurd h' (by simp)) (fun _=>Ze (fun _=>Zb fun h'=>absurd h' (by simp)) (fun h'=>Zb fun _=>⟨hB,⟨by dsimp only; omega,h4⟩,rfl⟩))
theorem Ztr {p:Tapi_Params}(hp:PrmOk p) (c:Tapi_Context):Tot (ZfX p c) fun _=>True:=by
 unfold ZfX;exact(Zep hp).bind fun _ _=>Zb trivial
theorem ZnL {p:Tapi_Params}(hp:PrmOk p){c:Tapi_Context}(hc:Zm9 c){h:Tapi_Header}(hb:M32 h.2.2.2.2.1):Tot (ZbE p c h) fun r=>Zm9 r.1:=by
 unfold ZbE;have z0:Zm9 ((0,zA 32,0,0,([]:List Int)):Tapi_Context):=⟨⟨by decide,by decide⟩,by simp⟩
 have hw:=hp.win;have ht:=hc.times;refine(Ztr hp c).bind fun y _=>Ze (fun _=>Zb z0) (fun _=>Ze (fun _=>Zb z0) (fun _=>?_))
 rw[Zd8,Za]
 have k1:∀ x,Tot (Zcz c h (Zg4 h) x) fun r=>Zm9 r.1:=by
  intro x;unfold Zcz;refine Zx (by omega) (Zx (by omega) (Ze (fun hlt=>?_) (fun hlt=>Zb ⟨hb,by simp; omega⟩)));exact Zx (by simp; omega) (Zb ⟨hb,by simp; omega⟩)
 exact Zx (by omega) (Ze (fun _=>k1 _) (fun _=>k1 _))
theorem ZrQ {p:Tapi_Params}(hp:PrmOk p){c:Tapi_Context}(hc:Zm9 c){h:Tapi_Header}(hb:M32 h.2.2.2.2.1) (n:Int):Tot (Zcs p c h n) fun _=>True:=by
 unfold Zcs;refine(ZnL hp hc hb).bind fun y _=>Ze (fun _=>Zb trivial) (fun _=>Ze (fun _=>Zb trivial) (fun _=>Ze (fun _=>Zb trivial) (fun _=>?_)))
 refine(ZoI hp hc.bits).bind fun z _=>Ze (fun _=>Zb trivial) (fun _=>Ze (fun _=>Zb trivial) (fun _=>?_))
 refine(ZpV _ hb).bind fun w _=>Ze (fun _=>Zb trivial) (fun _=>?_)
 refine(ZoJ _ (by have:=hc.times; omega)).bind fun m _=>Ze (fun _=>Zb trivial) (fun _=>Ze (fun _=>Zb trivial) (fun _=>?_))
 refine Y6 ([]:List Nat) (fun _=>True) (by simp) trivial (fun i hi=>absurd hi (by simp)) fun _=>?_
 simp only[ZhU];rw[hp.cps,if_neg (by simp)];exact⟨_,rfl,trivial⟩
structure Zro (k:Nat) (w:Tlightclientmade_World):Prop where
 prm:PrmOk w.1
 blk:∀ b∈w.2.1,Zoa b∧BlkM b
 led:∀ l∈w.2.2.1,Zpi l∧0≤l.1∧l.1≤k
 ctx:∀ c∈w.2.2.2.1,Zm9 c
 lens:w.2.2.1.length=w.2.1.length+1∧w.2.2.2.1.length=w.2.1.length+1∧w.2.2.2.2.length=w.2.1.length∧w.2.1.length≤k
theorem Zv1 {k:Nat}{w:Tlightclientmade_World}(h:Zro k w){l:List Int}(hl:∀ a∈l,0≤a∧a≤255) (hk:k+l.length≤1000000):Tot (Zf1 w l) fun r=>Zro (k+l.length) r∧r.1=w.1:=by
 obtain⟨hp,hb,hle,hc,hn1,hn2,hn3,hn4⟩:=h;unfold Zf1;refine Zx (by omega) (Zx (by omega) (Zx (by omega) (Zx (by omega) ?_)));refine ZJ (I:=fun(n:Nat) (s:Int×List Tapi_Block×List Tapi_Ledger×List Tapi_Context×List (List Tapi_Coin))=>s.1+(n:Int)=(l.length:Int)∧0≤s.1∧Zro (k+s.1.toNat) (w.1,s.2.1,s.2.2.1,s.2.2.2.1,s.2.2.2.2)) (n:=l.length) ?_ ⟨by simp,by simp,⟨hp,hb,hle,hc,hn1,hn2,hn3,hn4⟩⟩;rintro n ⟨i,bs,ls,cs,us⟩ ⟨h1,h2,⟨g1,g2,g3,g4,g5,g6,g7,g8⟩⟩
 dsimp only at h1 h2 g1 g2 g3 g4 g5 g6 g7 g8;simp only[Zi3];refine Ze (fun hi=>?_) (fun hi=>?_)
 ·refine X0 h2 hi fun a ha=>?_
  rw[wi ((ls.length:Int)-1) (by omega),wi ((cs.length:Int)-1) (by omega)];refine Xf (by omega) (by omega) fun j hj hjl=>ZdR hjl fun x hx=>Xf (by omega) (by omega) fun q hq hql=>ZdR hql fun c hcq=>?_
  obtain⟨x1,x2,x3⟩:=g3 x (List.mem_of_getElem? hx);have hcm:=g4 c (List.mem_of_getElem? hcq);refine(ZuI hp x1 ⟨x2,by omega⟩ hcm (hl a ha)).bind fun b hbm=>(ZrP hp x1 ⟨x2,by omega⟩ hbm).bind fun r hr=>?_
  have h5:Tot (if ¬ (r.2.2=0) then some (false) else(Zcs w.1 c b.1 1073741824).bind fun y64=>some (!(decide (y64=0)))) fun _=>True :=
   Ze (fun _=>Zb trivial) (fun _=>(ZrQ hp hcm hbm.bits _).bind fun _ _=>Zb trivial)
  refine h5.bind fun z _=>Ze (fun _=>?_) (fun hz=>?_)
  ·refine Zb ⟨n-1,by omega,?_,?_,?_⟩
   ·dsimp only
    rw[wi _ (by omega)];omega
   ·dsimp only
    rw[wi _ (by omega)];omega
   ·dsimp only
    rw[wi _ (by omega),show(i+1).toNat=i.toNat+1 by omega];exact⟨g1,g2,fun l' hl'=>⟨(g3 l' hl').1,(g3 l' hl').2.1,by have:=(g3 l' hl').2.2; omega⟩,g4,g5,g6,g7,by dsimp only; omega⟩
  ·have h0:r.2.2=0:=by
    apply Decidable.byContradiction
    intro c';exact hz (.inl c')
   obtain⟨r1,r2,r3⟩:=hr h0;refine(ZnL hp hcm hbm.bits).bind fun d hd=>Zx (by omega) (Zx (by omega) (Zx (by omega) (Zx (by omega) (Zb ⟨n-1,by omega,?_,?_,?_⟩))))
   ·dsimp only
    rw[wi _ (by omega)];omega
   ·dsimp only
    rw[wi _ (by omega)];omega
   ·dsimp only
    rw[wi _ (by omega),show(i+1).toNat=i.toNat+1 by omega];refine⟨g1,?_,?_,?_,?_,?_,?_,?_⟩
    ·intro b' hb'
     rcases List.mem_append.1 hb' with hb' | hb'
     ·exact g2 b' hb'
     ·obtain rfl:=List.mem_singleton.1 hb'
      exact⟨r1,hbm⟩
    ·intro l' hl'
     rcases List.mem_append.1 hl' with hl' | hl'
     ·exact⟨(g3 l' hl').1,(g3 l' hl').2.1,by have:=(g3 l' hl').2.2; omega⟩
     ·obtain rfl:=List.mem_singleton.1 hl'
      exact⟨r2,by omega,by omega⟩
    ·intro c' hc'
     rcases List.mem_append.1 hc' with hc' | hc'
     ·exact g4 c' hc'
     ·obtain rfl:=List.mem_singleton.1 hc'
      exact hd
    ·simp[g5]
    ·simp[g6]
    ·simp[g7]
    ·simp
     omega
 ·refine Tot.out (Zb ⟨?_,rfl⟩)
  have e:i.toNat=l.length:=by omega
  rw[e] at g3 g8;exact⟨g1,g2,g3,g4,g5,g6,g7,g8⟩
end
section
set_option maxRecDepth 100000
theorem Zrp (p:Nat):∀ (l:List Int) (n:Nat) (s:Int) (B:List Bool),n≤1600000→ZhZ p n s l=some B→n+B.length≤1600000
 | [],n,s,B,hn,h=>by
  simp only[ZhZ,Option.some.injEq] at h;subst h;simpa using hn
 | v :: l,n,s,B,hn,h=>by
  rw[ZhZ] at h;split at h
  ·cases h
  ·rename_i hl
   obtain⟨B2,h2,rfl⟩:=Option.map_eq_some_iff.1 h;have:=Zrp p l _ v B2 (by omega) h2;rw[List.length_append,Zhq];omega
theorem Zy1 {k:Arr 2}{o:List (List Int)}{p m:Int}{r:Tapi_Filter×Int}(ho:o.length≤4096) (hp:0≤p∧p≤32) (hm:1≤m∧m≤1099511627776) (h:BR k o p m r):r=((0,[]),4)∨(r.2=0∧Byt r.1.2∧r.1.1=((dfs [] o).length:Int)∧DR r.1 p=(srt ((dfs [] o).map (ZeV k r.1.1 m)),0)):=by
 have hby:=Zx4 h;have hdl:=dfs_len o [];simp only[List.length_nil,Nat.zero_add] at hdl;rcases h with ⟨a1,_⟩ | ⟨_,a2,_⟩ | ⟨_,_,h⟩
 ·omega
 ·omega
 ·rcases h with ⟨a1,_⟩ | ⟨_,a2,_⟩ | ⟨_,_,_,a4,_⟩ | ⟨h1,_,_,h4,h5⟩
  ·rw[Zar] at a1; simp at a1; omega
  ·omega
  ·exact absurd (Zsf _) a4
  ·cases hB:ZhZ p.toNat 0 0 (srt ((dfs [] o).map (ZeV k ((dfs [] o).length:Int) m))) with
   | none=>rw[hB] at h5; exact .inl h5
   | some B =>
    rw[hB] at h5;obtain⟨y,rfl,hw⟩:=h5;have hl:(srt ((dfs [] o).map (ZeV k ((dfs [] o).length:Int) m))).length=(dfs [] o).length:=by rw[Zar]; simp
    obtain⟨q,rfl⟩:∃ q:Nat,p=(q:Int):=⟨p.toNat,by omega⟩
    rw[show((q:Int)).toNat=q by omega] at hB;have:=ZvU h1 (by omega) (Zo8 (Zo7 _ _ _ _)) h4 hB (by have:=Zrp q _ 0 0 B (by omega) hB; omega) hw;refine .inr ⟨rfl,hby,?_,?_⟩
    ·simp only[hl]
    ·simp only
     rw[this,hl]
theorem ZuJ {k:Arr 2}{f:Tapi_Filter}{l:List (List Int)}{p m:Int}{L:List Int}(hl:l.length≤4096) (hf:0≤f.1∧f.1≤4096) (hm:1≤m∧m≤1099511627776) (hd:DR f p=(L,0)):MR k f l p m=(l.any fun x=>decide (ZeV k f.1 m x∈L),0):=by
 have hv:VR k l f.1 m=(Zh0 [] (srt (l.map (ZeV k f.1 m))),0):=by
  unfold VR;rw[if_neg (by omega),if_neg (by omega)]
 unfold MR;rw[hd,hv];simp only[if_true]
 congr 1
 rw[Bool.eq_iff_iff];simp only[ZoE,List.any_eq_true,decide_eq_true_eq,adjF_mem,List.not_mem_nil,false_or];constructor
 ·rintro⟨v,hv,hL⟩
  obtain⟨x,hx,rfl⟩:=List.mem_map.1 ((Zk1 _).mem_iff.1 hv);exact⟨x,hx,hL⟩
 ·rintro⟨x,hx,hL⟩
  exact⟨_,(Zk1 _).mem_iff.2 (List.mem_map_of_mem hx),hL⟩
end
section
set_option maxRecDepth 100000
theorem Zts {x:Int}(h0:0≤x) (h1:x≤18446744073709551615):bits .and .u64 x 4294967295=x % 4294967296:=by
 obtain⟨n,rfl⟩:=Int.eq_ofNat_of_zero_le h0;show IntKind.u64.wrap ((BitVec.ofInt 64 (n:Int) &&& BitVec.ofInt 64 4294967295).toNat:Int)=_
 rw[BitVec.toNat_and]
 have e1:(BitVec.ofInt 64 (n:Int)).toNat=n:=by
  simp only[BitVec.toNat_ofInt];omega
 have e2:(BitVec.ofInt 64 4294967295).toNat=2 ^ 32-1:=by decide
 rw[e1,e2,Nat.and_two_pow_sub_one_eq_mod,ZoA (by omega)];omega
theorem Zx7 {h y:Int}(hh:0≤h∧h≤18446744073709551615) (hy:0≤y∧y≤4294967295):scl h y≤y:=by
 unfold scl XN;simp only[Option.map_some,Option.getD_some];have f1:h.fdiv 4294967296=h / 4294967296:=by rw[Int.fdiv_eq_ediv_of_nonneg _ (by omega)]
 have f2:y.fdiv 4294967296=0:=by rw[Int.fdiv_eq_ediv_of_nonneg _ (by omega)]; omega
 have f3:bits .and .u64 y 4294967295=y:=by rw[Zts hy.1 (by omega)]; omega
 rw[f1,f2,f3,Zts hh.1 hh.2];have ha:0≤h / 4294967296∧h / 4294967296≤4294967295:=by omega
 have hb:0≤h % 4294967296∧h % 4294967296≤4294967295:=by omega
 generalize h / 4294967296=a at ha ⊢;generalize h % 4294967296=b at hb ⊢;have p1:0≤a * y:=Int.mul_nonneg ha.1 hy.1;have p2:a * y≤4294967295 * y:=Int.mul_le_mul_of_nonneg_right ha.2 hy.1;have p3:0≤b * y:=Int.mul_nonneg hb.1 hy.1;have p4:b * y≤4294967295 * y:=Int.mul_le_mul_of_nonneg_right hb.2 hy.1;generalize a * y=A at p1 p2 ⊢;generalize b * y=B at p3 p4 ⊢;rw[Int.mul_zero,Int.mul_zero,wu 0 (by omega),wu B (by omega),wu A (by omega)];have f4:B.fdiv 4294967296=B / 4294967296:=by rw[Int.fdiv_eq_ediv_of_nonneg _ (by omega)]
 rw[f4,wu (A+B / 4294967296) (by omega),Zts (by omega) (by omega)];have f5:(A+B / 4294967296).fdiv 4294967296=(A+B / 4294967296) / 4294967296:=by rw[Int.fdiv_eq_ediv_of_nonneg _ (by omega)]
 rw[f5,Int.add_zero,Int.zero_add,wu ((A+B / 4294967296) % 4294967296) (by omega)];have f6:((A+B / 4294967296) % 4294967296).fdiv 4294967296=0:=by rw[Int.fdiv_eq_ediv_of_nonneg _ (by omega)]; omega
 rw[f6,wu ((A+B / 4294967296) / 4294967296) (by omega),Int.add_zero,wu ((A+B / 4294967296) / 4294967296) (by omega)];omega
theorem Ztt (k:Arr 2) (l:List Int):0≤Zth k l∧Zth k l≤18446744073709551615:=ZoC _ _ _ _
theorem Zp0 (p:Nat) (V:Int):∀ (l:List Int) (n:Nat) (s:Int),ZoB s l→(∀ x∈l,x≤V)→0≤s→(V-s) / 2 ^ p≤65536→(n:Int)+(V-s) / 2 ^ p+l.length * (1+p)≤1600000→∃ B,ZhZ p n s l=some B
 | [],n,s,_,_,_,_,_=>⟨[],rfl⟩
 | v :: l,n,s,hc,hV,hs,h1,h2=>by
  obtain⟨hsv,hc⟩:=hc;have hv:=hV v (by simp);have hp:(0:Int)<2 ^ p:=Int.pow_pos (by decide);have e0:0≤(v-s) / 2 ^ p:=Int.ediv_nonneg (by omega) (by omega);have e1:(v-s) / 2 ^ p≤(V-s) / 2 ^ p:=Int.ediv_le_ediv hp (by omega)
  have e2:(v-s) / 2 ^ p+(V-v) / 2 ^ p≤(V-s) / 2 ^ p:=by
   apply(Int.le_ediv_iff_mul_le hp).2
   have a1:=Int.ediv_mul_le (v-s) (b:=2 ^ p) (by omega);have a2:=Int.ediv_mul_le (V-v) (b:=2 ^ p) (by omega);rw[Int.add_mul];omega
  have e3:0≤(V-v) / 2 ^ p:=Int.ediv_nonneg (by omega) (by omega);rw[List.length_cons] at h2
  have h3:((l.length+1:Nat):Int) * (1+p)=l.length * (1+p)+(1+p):=by
   rw[Int.natCast_add,Int.add_mul];simp
  rw[h3] at h2;have h4:(0:Int)≤l.length * (1+p):=Int.mul_nonneg (by omega) (by omega);have hn:((n+((v-s) / 2 ^ p).toNat+1+p:Nat):Int)=n+(v-s) / 2 ^ p+1+p:=by omega
  obtain⟨B,hB⟩:=Zp0 p V l (n+((v-s) / 2 ^ p).toNat+1+p) v hc (fun x hx=>hV x (by simp[hx])) (by omega) (by omega) (by rw[hn]; omega);rw[ZhZ,if_neg (by omega),hB];exact⟨_,rfl⟩
theorem Zoc (l:List (List Int)):(dfs [] l).length≤l.length:=by
 have:=dfs_len l [];simpa using this
theorem Ztu {k:Arr 2}{l:List (List Int)}{r:Tapi_Filter×Int}(hl:l.length≤4096) (h:BR k l 10 1533 r):r.2=0∧Byt r.1.2∧r.1.1=((dfs [] l).length:Int)∧DR r.1 10=(srt ((dfs [] l).map (ZeV k r.1.1 1533)),0):=by
 rcases Zy1 hl (by omega) (by omega) h with hr | hr
 ·exfalso
  have hd:=Zoc l;rcases h with ⟨a1,_⟩ | ⟨_,a2,_⟩ | ⟨_,_,h⟩
  ·omega
  ·omega
  ·rcases h with ⟨a1,_⟩ | ⟨_,a2,_⟩ | ⟨_,_,_,a4,_⟩ | ⟨h1,_,_,h4,h5⟩
   ·rw[Zar] at a1; simp at a1; omega
   ·omega
   ·exact absurd (Zsf _) a4
   ·have hn:IntKind.u64.wrap ((IntKind.u64.wrap ((dfs [] l).length:Int)) * 1533)=((dfs [] l).length:Int) * 1533:=by
     rw[wu ((dfs [] l).length:Int) (by omega),wu (((dfs [] l).length:Int) * 1533) (by omega)]
    have hval:∀ x∈srt ((dfs [] l).map (ZeV k ((dfs [] l).length:Int) 1533)),x≤4096 * 1533:=by
     intro x hx;obtain⟨y,_,rfl⟩:=List.mem_map.1 ((Zk1 _).mem_iff.1 hx);unfold ZeV;rw[hn];have:=Zx7 (Ztt k y) (y:=((dfs [] l).length:Int) * 1533) (by omega);omega
    have hu:=Zo8 (Zo7 k ((dfs [] l).length:Int) 1533 (dfs [] l));have hlen:(srt ((dfs [] l).map (ZeV k ((dfs [] l).length:Int) 1533))).length≤4096:=by rw[Zar]; simp; omega
    obtain⟨B,hB⟩:=Zp0 10 (4096 * 1533) (srt ((dfs [] l).map (ZeV k ((dfs [] l).length:Int) 1533))) 0 0 (asc_chain _ 0 (fun h0=>(hu _ (List.getElem_mem h0)).1) h4) hval (by omega) (by decide) (by
     have:((4096 * 1533:Int)-0) / 2 ^ 10=6132:=by decide
     rw[this];rw[show((1:Int)+((10:Nat):Int))=11 from rfl]
     omega)
    rw[show(10:Int).toNat=10 from rfl,hB] at h5;obtain⟨y,hy,_⟩:=h5;rw[hy] at hr;simp at hr
 ·exact hr
theorem Zv2 {k:Arr 2}{l t:List (List Int)}{r:Tapi_Filter×Int}(hl:l.length≤4096) (h:BR k l 10 1533 r) (ht:t.length≤4096){x:List Int}(hx:x∈t) (hxl:x∈l):MR k r.1 t 10 1533=(true,0):=by
 obtain⟨h0,hby,hcount,hdr⟩:=Ztu hl h;have hd:=Zoc l;rw[ZuJ ht (by omega) (by omega) hdr]
 congr 1
 rw[List.any_eq_true];refine⟨x,hx,?_⟩;rw[decide_eq_true_eq];exact(Zk1 _).mem_iff.2 (List.mem_map_of_mem ((dfs_mem l [] x).2 (.inr hxl)))
theorem Zx8 {k:Arr 2}{l t:List (List Int)}{r:Tapi_Filter×Int}(hl:l.length≤4096) (h:BR k l 10 1533 r) (ht:t.length≤4096):(MR k r.1 t 10 1533).2=0:=by
 obtain⟨h0,hby,hcount,hdr⟩:=Ztu hl h;have hd:=Zoc l;rw[ZuJ ht (by omega) (by omega) hdr]
end
section
open Go.Sort
set_option maxRecDepth 100000
theorem Zv3 {l:List Int}(h:l.length≤12):Yq l=some (srt l):=by
 obtain⟨h2,h3⟩:=insertionSort_holds swo_ltInt l.toArray 0 l.length (by omega) (by simp);have hu:=sorted_unique_holds swo_ltInt (fun x y h1 h2=>by simp only[ltInt,decide_eq_false_iff_not] at h1 h2; omega) l.toArray (insertionSort ltInt l.toArray 0 l.length) (by simpa using h2) (by simpa using h3)
 have hd:(insertionSort ltInt l.toArray 0 l.length).toList=srt l:=by
  rw[hu,srt];show l.mergeSort _=_
  congr 1
  funext x y
  simp[ltInt]
  by_cases h:x≤y
  ·simp[h]
   try omega
  ·simp[h]
   try omega
 have hi:=ZxN l.toArray 0 l.length (by simp) (by omega) (by simp; omega);rw[hd] at hi
 have hb:∀ (rf:List Int→Int→Int→Int→Option (List Int)) (c:Int),Yv rf l 0 (l.length:Int) c=some (srt l):=by
  intro rf c;unfold Yv;refine Xh ?_;simp only[XP];rw[wi _ (by omega),if_pos (by omega)];have hi':Zv l 0 (l.length:Int)=some (srt l):=hi;rw[hi',Za,Zj (Zar l),Zj (Zar l)]
 have hf:∀ c:Int,YA l 0 (l.length:Int) c=some (srt l):=fun c=>by
  refine Zwz (fun n x hx=>?_) ⟨1,hb _ c⟩;cases n with
  | zero=>simp[Lslices_pdqsortOrdered_of_uint64w_n] at hx
  | succ n =>
   rw[Lslices_pdqsortOrdered_of_uint64w_n,hb] at hx;exact(Option.some.inj hx).symm
 rw[Yq,ZoA (by omega),ZxO (by omega),Za,hf,Za,Zj (Zar l),Zj (Zar l)]
theorem ZoK (k:Arr 2) (l:List (List Int)) (n m:Int) (hi:Zgk l) (hl:l.length≤12):ZaX k l n m=some (srt (l.map (ZeV k n m))):=by
 rw[ZaX]
 obtain⟨r,h1,rfl⟩:=Xi (step:=Zb6 l k n m) (fun q s=>∃ i:Nat,s=((i:Int),(l.take i).map (ZeV k n m))∧i≤l.length∧q=l.length-i) (fun r=>r=srt (l.map (ZeV k n m))) (by
  rintro q s ⟨i,rfl,hil,rfl⟩
  by_cases h:i<l.length
  ·refine .inl ⟨l.length-(i+1),(((i+1:Nat):Int),(l.take (i+1)).map (ZeV k n m)),by omega,?_,i+1,rfl,by omega,rfl⟩
   simp only[Zb6,if_pos (show(i:Int)<(l.length:Int) by omega)];rw[Zh h,ZxW k _ (hi _ (List.getElem_mem h)).2,Za,ZvQ,Za,Zj (by simp; omega),wS (by omega),Zp9 _ _ _ h];rfl
  ·refine .inr ⟨_,?_,rfl⟩
   simp only[Zb6,if_neg (show ¬ (i:Int)<(l.length:Int) by omega),Zd5];rw[List.take_of_length_le (by omega),Zv3 (by simp; omega),Za,Zj (Zar _)]
   rfl) _ (0,[]) ⟨0,rfl,by omega,rfl⟩
 exact h1
theorem ZuK (k:Arr 2) (l:List (List Int)) (hi:Zgk l) (hl:l.length≤12):∃ r,Zc6 k l 10 1533=some r∧BR k l 10 1533 r:=by
 rw[Zc6,if_neg (by omega),if_neg (by omega)];refine Xi (step:=Za8 l k 1533 10) (fun q s=>∃ (i:Nat) (mp:List (ByteArray×Bool)),s=((i:Int),mp,dfs [] (l.take i))∧i≤l.length∧(∀ x,Byt x→((Zcn (Zkj x) mp).getD false=true↔x∈dfs [] (l.take i)))∧q=l.length-i) _ ?_ _ _ ⟨0,[],rfl,by omega,by intro x hx; simp[Zcn,dfs],rfl⟩;rintro q s ⟨i,mp,rfl,hil,hmp,rfl⟩
 have hdl:=dfs_len (l.take i) [];by_cases h:i<l.length
 ·have hx:=(hi _ (List.getElem_mem h)).1
  by_cases hq:l[i]∈dfs [] (l.take i)
  ·refine .inl ⟨l.length-(i+1),(((i+1:Nat):Int),mp,dfs [] (l.take (i+1))),by omega,?_,i+1,mp,rfl,by omega,?_,rfl⟩
   ·simp only[Za8,if_pos (show(i:Int)<(l.length:Int) by omega)]
    rw[Zh h,if_neg (by simp[(hmp _ hx).2 hq]),Za7,wS (by omega),Zld _ _ h,dfs_snoc,if_pos hq]
   ·intro x hb
    rw[hmp x hb,Zld _ _ h,dfs_snoc,if_pos hq]
  ·refine .inl ⟨l.length-(i+1),(((i+1:Nat):Int),Ze8 (Zkj l[i]) true mp,dfs [] (l.take (i+1))),by omega,?_,i+1,_,rfl,by omega,?_,rfl⟩
   ·simp only[Za8,if_pos (show(i:Int)<(l.length:Int) by omega)]
    rw[Zh h,if_pos (fun e=>hq ((hmp _ hx).1 e)),Zj (by simp at hdl; omega),Za7,wS (by omega),Zld _ _ h,dfs_snoc,if_neg hq]
   ·intro x hb
    rw[Zti,Zld _ _ h,dfs_snoc,if_neg hq];by_cases e:x=l[i]
    ·subst e; simp
    ·rw[if_neg (fun e2=>e (Zuq hb hx e2)),hmp x hb]
     simp[e]
 ·have hdi:=Zur hi
  have hdl2:=dfs_len l [];simp only[List.length_nil,Nat.zero_add] at hdl2;obtain⟨r,g1,g2,g3⟩:=ZvM (srt ((dfs [] l).map (ZeV k ((dfs [] l).length:Int) 1533))) 10 (Zo8 (Zo7 _ _ _ _)) (by rw[Zar]; simp; omega);refine .inr ⟨r,?_,.inr (.inr ⟨by omega,by omega,g3⟩)⟩;simp only[Za8,if_neg (show ¬ (i:Int)<(l.length:Int) by omega),Zey];rw[List.take_of_length_le (by omega),ZoK k _ _ 1533 hdi (by omega),Za,g1,Za];rfl
theorem ZrR {l:List Int}(hl:l.length≤1):Ye l=some (Zh0 [] l):=by
 rw[Ye,if_pos (by omega)]
 match l,hl with
 | [],_=>rfl
 | [x],_=>simp[Zh0]
theorem ZrS (k:Arr 2) (l:List (List Int)) (n m:Int) (hi:Zgk l) (hl:l.length≤1):Zcj k l n m=some (VR k l n m):=by
 rw[Zcj,VR];by_cases h1:4096<l.length
 ·rw[if_pos (by omega),if_pos h1]
 ·rw[if_neg (by omega),if_neg h1]
  by_cases h2:((n<0∨4096<n)∨m<1)∨1099511627776<m
  ·rw[if_pos h2,if_pos h2]
  ·rw[if_neg h2,if_neg h2,ZoK k l n m hi (by omega),Za,ZrR (by rw[Zar]; simp; omega),Za]
theorem Zy2 (a b:List Int×Int) (s:Int×Int):ZeA a b s=ZbA a b s:=by
 obtain⟨x,y⟩:=s;rfl
theorem Ztv (k:Arr 2) (f:Tapi_Filter) (l:List (List Int)) (p m:Int) (hb:Byt f.2) (hi:Zgk l) (hl:l.length≤1):Zc7 k f l p m=some (MR k f l p m):=by
 rw[Zc7,Zus f p hb,Za,MR];by_cases h1:(DR f p).2=0
 ·rw[if_neg (by simp[h1]),if_pos h1,ZrS k l f.1 m hi hl,Za]
  by_cases h2:(VR k l f.1 m).2=0
  ·rw[if_neg (by simp[h2]),if_pos h2]
   rw[show ZeA (VR k l f.1 m) (DR f p)=ZbA (VR k l f.1 m) (DR f p) from funext (Zy2 _ _)];exact Ztk (VR k l f.1 m).1 (DR f p).1 (VR k l f.1 m).2 (DR f p).2 (Zx1 f p) (Zx2 k l f.1 m) (by have:=Zx0 f p; omega) (by have:=ZxX k l f.1 m (by omega); omega) _ 0 0 rfl (by omega) (by omega) (fun x hx h=>by omega)
  ·rw[if_pos h2,if_neg h2]
 ·rw[if_pos h1,if_neg h1]
theorem Zx9 {b:Tapi_Block}(h:ZiH b) (hb:Zrk b) (hl:(elS b).length≤12) (he:(ZhH b).2=0):∃ r,ZbN b=some r∧BR (Zm3 (Zg4 b.1)) (elS b) 10 1533 r:=by
 obtain⟨r,r1,r3⟩:=ZuK (Zm3 (Zg4 b.1)) (elS b) (ZpU h hb) hl;unfold ZbN;rw[ZpT,Za];refine⟨r,?_,r3⟩;rw[if_neg (by simp[he]),Zn8,Za,Zo9,Za,ZnG h,Za,r1];rfl
theorem ZuL (f:Tapi_Filter) (h:Arr 32) (l:List (List Int)) (hf:Byt f.2) (hi:Zgk l) (hl:l.length≤1):Xe f h l=some (MR (Zm3 h) f (l.flatMap posE) 10 1533):=by
 unfold Xe;refine ZeW l posE [] ?_ ?_
 ·intro i hi
  have hp:=YW posE 1 (l.take i) fun o _=>Zmo o
  rw[List.length_take] at hp;simp only[ZeC,List.nil_append,ZcA];rw[if_pos (by omega),Zh hi,Zo hi (by omega)];by_cases h0:0<l[i].length
  ·rw[if_pos (by omega),Zj (by omega)]
   simp only[posE,if_pos h0]
  ·rw[if_neg (by omega)]
   simp only[posE,if_neg h0,List.append_nil]
 ·have hp:=YW posE 1 l fun o _=>Zmo o
  simp only[ZeC,List.nil_append,ZeB];rw[if_neg (by omega),Zo9,Za,Ztv _ _ _ _ _ hf (ZoF hi) (by omega)];rfl
theorem Ztw {v:Int}(h:0≤v∧v≤255):Tot (ZeL v) PrmOk:=by
 unfold ZeL;have e:∃ x,Zio (zA 4)=some x∧dg x:=⟨_,rfl,ZfH (ZfH (ZfH (ZfH dg_zero (by omega) (ZiJ _ _ _)) (by omega) (ZiJ _ _ _)) (by omega) (ZiJ _ _ _)) (by omega) (ZiJ _ _ _)⟩
 obtain⟨x,e,hx⟩:=e;rw[e,Za,ZdA h.1,ZdA h.1,wi (v % 5) (by omega),wi (v % 3) (by omega),wi (3+v % 5) (by omega),wi (4+v % 3) (by omega)];refine(Znu hx 1).bind fun y hy=>Zb ⟨⟨by dsimp only; omega,by dsimp only; omega⟩,hy,by dsimp only; omega,by dsimp only; omega,rfl,by dsimp only; omega,by dsimp only; omega⟩
theorem ZuM {v:Int}(h:0≤v∧v≤255):Tot (ZfY v) (Zro 0):=by
 unfold ZfY;refine(Ztw h).bind fun p hp=>?_
 have h1:Tot (ZeM p) fun r=>Zpi r.1∧r.1.1=0:=by
  unfold ZeM;refine(Zep hp).bind fun y _=>Ze (fun _=>Zb ⟨⟨by simp,by simp⟩,rfl⟩) (fun _=>?_)
  rw[Zd8,Za];exact Zb ⟨⟨by simp,by simp⟩,rfl⟩
 have h2:Tot (ZeN p) fun r=>Zm9 r.1:=by
  unfold ZeN;refine(Zep hp).bind fun y _=>Ze (fun _=>Zb ⟨⟨by simp,by simp⟩,by simp⟩) (fun _=>?_)
  rw[Zd8,Za];exact Zb ⟨hp.bits,by simp⟩
 refine h1.bind fun a ha=>h2.bind fun c hc=>Zb ⟨hp,by simp,?_,?_,by simp⟩
 ·intro l hl
  obtain rfl:=List.mem_singleton.1 hl;exact⟨ha.1,by omega,by omega⟩
 ·intro l hl
  obtain rfl:=List.mem_singleton.1 hl;exact hc
theorem Zp1 {v:Int}(h:0≤v∧v≤255){l:List Int}(hl:∀ a∈l,0≤a∧a≤255) (hn:l.length≤1000):Tot (Zb7 v l) (Zro l.length):=by
 unfold Zb7;refine(ZuM h).bind fun w hw=>(Zv1 (k:=0) (w:=(w.1,w.2.1,w.2.2.1,w.2.2.2.1,w.2.2.2.2)) hw hl (by omega)).bind fun r hr=>?_
 have:=hr.1;rw[Nat.zero_add] at this;exact Zb this
end
section
set_option maxRecDepth 100000
theorem ZuN {α:Type}{x:Option α}{a:α}(h:Tot x fun r=>r=a):x=some a:=by
 obtain⟨r,rfl,rfl⟩:=h;rfl
theorem Zrq {l:List Int}(hl:l.length≤9223372036854775807):Tot (Zfe l 8) fun r=>r.length≤8∧∀ a∈r,a∈l:=by
 unfold Zfe
 have e:∃ m:Nat,(if (8:Int)<(l.length:Int) then 8 else(l.length:Int))=(m:Int)∧m≤8∧m≤l.length:=by
  by_cases h:(8:Int)<(l.length:Int)
  ·exact⟨8,by rw[if_pos h]; rfl,by omega,by omega⟩
  ·exact⟨l.length,by rw[if_neg h],by omega,by omega⟩
 obtain⟨m,e,h1,h2⟩:=e;rw[e];refine Zx (by omega) (Zb ⟨?_,fun a ha=>List.mem_of_mem_take ha⟩);rw[Int.toNat_natCast,List.length_take];omega
section
variable {b:Tapi_Block}
theorem ZuO (h:BlkM b):ZiH b:=by
 refine⟨by have:=h.len; omega,fun t ht=>?_⟩;obtain⟨h1,h2,h3,h4⟩:=h.one t ht;exact⟨by omega,by omega,fun o ho=>by have:=(h4 o ho).len; omega⟩
theorem Zv4 (h:BlkM b):Zrk b:=fun t ht=>⟨(h.one t ht).2.2.1,fun o ho=>((h.one t ht).2.2.2 o ho).byt⟩
theorem Zpj (h:BlkM b):(elS b).length≤12:=by
 have h1:∀ t∈b.2,(txE t).length≤3:=by
  intro t ht;obtain⟨h1,h2,-,-⟩:=h.one t ht;have ho:=YW ZbG 1 t.2.2.1 fun o _=>ZgB o
  have hi:=YW inE 1 t.2.1 fun o _=>by simp[inE]
  unfold txE;rw[List.length_append];split
  ·simp only[List.length_nil]
   omega
  ·omega
 have:=YW txE 3 b.2 h1;have:=h.len;unfold elS;omega
theorem ZoL (h:BlkM b) (hc:Zoa b):∃ r,ZbN b=some r∧r.2=0∧Byt r.1.2∧BR (Zm3 (Zg4 b.1)) (elS b) 10 1533 r:=by
 obtain⟨-,-,he⟩:=ZnH hc.fits;obtain⟨r,h1,h2⟩:=Zx9 (ZuO h) (Zv4 h) (Zpj h) (by rw[he]);obtain⟨g1,g2,-,-⟩:=Ztu (by have:=Zpj h; omega) h2;exact⟨r,h1,g1,g2,h2⟩
theorem Zlh (h:BlkM b){r:Tapi_Filter×Int}(hr:BR (Zm3 (Zg4 b.1)) (elS b) 10 1533 r) (hb:Byt r.1.2){x:List Int}(hx:Byt x) (hl:x.length≤100000):Tot (Xe r.1 (Zg4 b.1) [x]) fun m=>m.2=0∧(0<x.length→x∈elS b→m.1=true):=by
 have hi:Zgk [x]:=by
  intro y hy;obtain rfl:=List.mem_singleton.1 hy;exact⟨hx,hl⟩
 rw[ZuL r.1 (Zg4 b.1) [x] hb hi (by simp)];have hl4:(elS b).length≤4096:=by have:=Zpj h; omega
 have ht:([x].flatMap posE).length≤4096:=by
  have:=YW posE 1 [x] fun o _=>Zmo o
  simp only[List.length_cons,List.length_nil] at this;omega
 refine Zb ⟨Zx8 hl4 hr ht,fun h0 hm=>?_⟩;have hp:x∈[x].flatMap posE:=List.mem_flatMap.2 ⟨x,by simp,by rw[posE,if_pos h0]; simp⟩;rw[Zv2 hl4 hr ht hp hm]
end
theorem ZuP {b:Tapi_Block}{t:Tapi_Tx}{o:Tapi_Output}(ht:t∈b.2) (ho:o∈t.2.2.1) (h0:0<o.2.length):o.2∈elS b :=
 List.mem_flatMap.2 ⟨t,ht,List.mem_append.2 (.inl (List.mem_flatMap.2 ⟨o,ho,by rw[ZbG,if_pos h0]; simp⟩))⟩
theorem Zwa {b:Tapi_Block}{t:Tapi_Tx}{x:Tapi_Input}(ht:t∈b.2) (hx:x∈t.2.1) (hc:¬ cbS t=true):ZeU x.1∈elS b :=
 List.mem_flatMap.2 ⟨t,ht,List.mem_append.2 (.inr (by rw[if_neg hc]; exact List.mem_flatMap.2 ⟨x,hx,by simp[inE]⟩))⟩
theorem filterCovers (hs:Llaw20_sanew=some true) (v:Int) (l:List Int) (hv:0≤v∧v≤255) (hl:l.length≤9223372036854775807∧∀ a∈l,0≤a∧a≤255):ZiM v l=some true:=by
 refine ZuN ?_;unfold ZiM;rw[hs,Za,if_neg (by simp)];refine(Zrq hl.1).bind fun s hs=>(Zp1 hv (fun a ha=>hl.2 a (hs.2 a ha)) (by omega)).bind fun w hw=>?_
 have hwl:w.2.1.length≤8:=by have:=hw.lens.2.2.2; omega
 refine Y6 w.2.1 (fun _=>True) (by omega) trivial ?_ ?_
 ·intro i hi _
  simp only[Zej];rw[if_pos (by omega),Yt hi,ZhV hi];obtain⟨hc,hm⟩:=hw.blk _ (List.getElem_mem hi);generalize w.2.1[i]=b at hc hm ⊢;obtain⟨r,h1,h2,h3,h4⟩:=ZoL hm hc;rw[h1,Za,if_neg (by simp[h2]),Zd8,Za];have hbl:=hm.len
  have key:Tot (Zd (ZbR b r (Zg4 b.1) (i:Int)) 0) fun z=>z = .inl ((i+1:Nat):Int):=by
   refine Y6 b.2 (fun _=>True) (by omega) trivial ?_ ?_
   ·intro k hk _
    simp only[ZbR];rw[if_pos (by omega),Zh hk];have hcb:=hc.cb k hk;have hin:=List.getElem_mem hk;generalize b.2[k]=t at hcb hin ⊢;obtain⟨t1,t2,t3,t4⟩:=hm.one t hin
    have key2:Tot (Zd (ZbQ t r (Zg4 b.1) (k:Int)) 0) fun z=>z = .inl ((k+1:Nat):Int):=by
     refine Y6 t.2.2.1 (fun _=>True) (by omega) trivial ?_ ?_
     ·intro q hq _
      simp only[ZbQ];rw[if_pos (by omega),Zh hq];have hs4:=t4 _ (List.getElem_mem hq);have hel:=ZuP (b:=b) hin (List.getElem_mem hq) (by rw[hs4.len]; omega);refine(Zlh hm h4 h3 hs4.byt (by rw[hs4.len]; omega)).bind fun m hmm=>?_
      have hm1:=hmm.2 (by rw[hs4.len]; omega) hel;rw[if_neg (by simp[hm1,hmm.1])];exact Zb ⟨Zo hq (by omega),trivial⟩
     ·intro _
      simp only[ZbQ];rw[if_neg (by omega)];refine Tot.inr ?_;unfold Zhn;refine Y6 t.2.1 (fun _=>True) (by omega) trivial ?_ ?_
      ·intro q hq _
       simp only[Zei];rw[if_pos (by omega),Zh hq,Zla,Za];have hby:=t3 _ (List.getElem_mem hq);refine(Zlh hm h4 h3 (x:=ZeU t.2.1[q].1) (ZlM hby (Zmm _ _)) (by simp)).bind fun m hmm=>?_
       have hno:¬ ((0<(k:Int)∧¬ (m.1=true))∨¬ (m.2=0)):=by
        rintro(⟨h0,hne⟩ | hne)
        ·refine hne (hmm.2 (by simp) (Zwa hin (List.getElem_mem hq) ?_))
         rw[hcb];simp
         omega
        ·exact hne hmm.1
       rw[if_neg hno];exact Zb ⟨Zo hq (by omega),trivial⟩
      ·intro _
       simp only[Zei];rw[if_neg (by omega)];refine Tot.inr ?_;unfold Zhm;exact Zb (by rw[Zo hk (by omega)])
    refine key2.mono fun z hz=>?_
    subst hz;exact⟨rfl,trivial⟩
   ·intro _
    simp only[ZbR];rw[if_neg (by omega)];refine Tot.inr ?_;unfold Zhl;exact Zb (by rw[Zo hi (by omega)])
  refine key.mono fun z hz=>?_
  subst hz;exact⟨rfl,trivial⟩
 ·intro _
  simp only[Zej];rw[if_neg (by omega)];exact⟨true,rfl,rfl⟩
end
section
set_option maxRecDepth 100000
theorem Zpk (v:Int) (l:List Int) (hv:0≤v∧v≤255) (hl:l.length≤9223372036854775807∧∀ a∈l,0≤a∧a≤255):Zcl v l=some true:=by
 refine ZuN ?_;unfold Zcl;rw[Lconst_true,Za,if_neg (by simp)];refine(Zrq hl.1).bind fun s hs=>(Zp1 hv (fun a ha=>hl.2 a (hs.2 a ha)) (by omega)).bind fun w hw=>?_
 have hwl:w.2.1.length≤8:=by have:=hw.lens.2.2.2; omega
 refine Y6 w.2.1 (fun _=>True) (by omega) trivial ?_ ?_
 ·intro i hi _
  simp only[ZaZ];rw[if_pos (by omega),Yt hi,ZhV hi];obtain⟨hc,hm⟩:=hw.blk _ (List.getElem_mem hi);generalize w.2.1[i]=b at hc hm ⊢;obtain⟨r,h1,h2,h3,h4⟩:=ZoL hm hc;rw[h1,Za,if_neg (by simp[h2]),Zd8,Za];have hbl:=hm.len
  have key:Tot (Zd (XS b r (Zg4 b.1) (i:Int)) 0) fun z=>z = .inl ((i+1:Nat):Int):=by
   refine Y6 b.2 (fun _=>True) (by omega) trivial ?_ ?_
   ·intro k hk _
    simp only[XS];rw[if_pos (by omega),Zh hk];have hcb:=hc.cb k hk;have hin:=List.getElem_mem hk;generalize b.2[k]=t at hcb hin ⊢;obtain⟨t1,t2,t3,t4⟩:=hm.one t hin
    have key2:Tot (Zd (XR t r (Zg4 b.1) (k:Int)) 0) fun z=>z = .inl ((k+1:Nat):Int):=by
     refine Y6 t.2.2.1 (fun _=>True) (by omega) trivial ?_ ?_
     ·intro q hq _
      simp only[XR];rw[if_pos (by omega),Zh hq];have hs4:=t4 _ (List.getElem_mem hq);have hel:=ZuP (b:=b) hin (List.getElem_mem hq) (by rw[hs4.len]; omega);refine(Zlh hm h4 h3 hs4.byt (by rw[hs4.len]; omega)).bind fun m hmm=>?_
      have hm1:=hmm.2 (by rw[hs4.len]; omega) hel;rw[if_neg (by simp[hm1,hmm.1])];exact Zb ⟨Zo hq (by omega),trivial⟩
     ·intro _
      simp only[XR];rw[if_neg (by omega)];refine Tot.inr ?_;unfold YG;refine Y6 t.2.1 (fun _=>True) (by omega) trivial ?_ ?_
      ·intro q hq _
       simp only[ZaY];rw[if_pos (by omega),Zh hq,Zla,Za];have hby:=t3 _ (List.getElem_mem hq);refine(Zlh hm h4 h3 (x:=ZeU t.2.1[q].1) (ZlM hby (Zmm _ _)) (by simp)).bind fun m hmm=>?_
       have hno:¬ ((0<(k:Int)∧¬ (m.1=true))∨¬ (m.2=0)):=by
        rintro(⟨h0,hne⟩ | hne)
        ·refine hne (hmm.2 (by simp) (Zwa hin (List.getElem_mem hq) ?_))
         rw[hcb];simp
         omega
        ·exact hne hmm.1
       rw[if_neg hno];exact Zb ⟨Zo hq (by omega),trivial⟩
      ·intro _
       simp only[ZaY];rw[if_neg (by omega)];refine Tot.inr ?_;unfold YF;exact Zb (by rw[Zo hk (by omega)])
    refine key2.mono fun z hz=>?_
    subst hz;exact⟨rfl,trivial⟩
   ·intro _
    simp only[XS];rw[if_neg (by omega)];refine Tot.inr ?_;unfold YE;exact Zb (by rw[Zo hi (by omega)])
  refine key.mono fun z hz=>?_
  subst hz;exact⟨rfl,trivial⟩
 ·intro _
  simp only[ZaZ];rw[if_neg (by omega)];exact⟨true,rfl,rfl⟩
end
end Go.Lc
