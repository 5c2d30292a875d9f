import Derived.Test.YthpkpciceodioaaGreatDoorLcG3
import Derived.Test.YthpkpciceodioaaGreatDoorLcG1
import Derived.KernelRfl
import Derived.Test.YthpkpciceodioaaGreatDoorLcG2
import Derived.Sort.AssemblyPlain
namespace Go.Lc
open Go.RowKit
open Go.Av
set_option linter.unusedVariables false
set_option linter.unusedSimpArgs false
theorem ZrI {σ ρ:Type} {step:σ→Option (σ ⊕ ρ)} (enc:Nat→σ) (n:Nat) (bad:Nat→Prop) (rb x:Option ρ) [inst:Decidable (∃ i,i<n∧bad i)] (h:∀ i,i<n→(∀ j,j<i→¬ bad j)→¬ bad i→step (enc i)=some (.inl (enc (i+1)))) (hb:∀ i,i<n→(∀ j,j<i→¬ bad j)→bad i→step (enc i)=rb.map .inr) (he:(∀ j,j<n→¬ bad j)→step (enc n)=x.map .inr) {s:σ} (hs:s=enc 0):Zf step s=if ∃ i,i<n∧bad i then rb else x:=by
 subst hs;by_cases hx:∃ i,i<n∧bad i
 ·rw [if_pos hx]
  obtain ⟨m,hm,hbm,hmin⟩:=Zmf bad n hx;exact Yg enc m (fun i hi=>h i (by omega) (fun j hj=>hmin j (by omega)) (hmin i hi)) (hb m hm hmin hbm)
 ·rw [if_neg hx]
  have hn:∀ i,i<n→¬ bad i:=fun i hi hbi=>hx ⟨i,hi,hbi⟩
  exact Yg enc n (fun i hi=>h i hi (fun j hj=>hn j (by omega)) (hn i hi)) (he hn)
def seen (l:List Tapi_OutPoint):List (Tapi_OutPoint×Bool):=l.foldl (fun m p=>ZfF p true m) []
abbrev nullP:Tapi_OutPoint:=(zA 32,4294967295)
def cbS (t:Tapi_Tx):Bool:=match t.2.1 with
 | [x]=>decide (x.1=nullP)
 | _=>false
theorem Zsl (t:Tapi_Tx):ZcK t=some (cbS t):=by
 obtain ⟨a,ins,outs,l⟩:=t;unfold ZcK ZhA cbS
 match ins with
 | []=>simp
 | [x]=>simp [Prod.ext_iff]
 | x :: y :: l =>
  have:¬ ((x :: y :: l).length:Int)=1:=by simp only [List.length_cons]; omega
  dsimp only;simp only [if_neg this,decide_eq_false this];rfl
theorem ZuD (t:Tapi_Tx):Zcl t=some (cbS t):=by
 rw [← Zsl];rfl
theorem Zot {k:IntKind} (h:k.signed=false) (x:Int):0≤k.wrap x:=by
 cases k <;> simp [IntKind.signed] at h <;> simp [IntKind.wrap,IntKind.signed,IntKind.bits] <;> omega
theorem Zs2 {k:IntKind} (h:k.signed=false) (op:BinOp) (x y:Int):0≤bits op k x y:=Zot h _
def rot (x n:Int):Int:=bits .or .u32 (IntKind.u32.wrap (x * (2 ^ (min (bits .and .u64 (IntKind.u64.wrap n) 31).toNat 32)))) (x.fdiv (2 ^ (min (IntKind.u64.wrap (32-(bits .and .u64 (IntKind.u64.wrap n) 31))).toNat 32)))
theorem Zqx (x n:Int):Xp x n=some (rot x n):=by
 have h1:¬ bits .and .u64 (IntKind.u64.wrap n) 31<0:=by have:=Zs2 (k:=.u64) rfl .and (IntKind.u64.wrap n) 31; omega
 have h2:¬ IntKind.u64.wrap (32-bits .and .u64 (IntKind.u64.wrap n) 31)<0:=by have:=Zot (k:=.u64) rfl (32-bits .and .u64 (IntKind.u64.wrap n) 31); omega
 unfold Xp;rw [Zg h1,Zg h2];rfl
def rr (x n:Int):Int:=rot x (IntKind.i64.wrap (-n))
theorem Zgt (x n:Int):X1 x n=some (rr x n):=by
 unfold X1;rw [Zqx];rfl
theorem ZeP (x n:Int):Xs x n=some (rr x n):=by
 unfold Xs;rw [Zqx];rfl
def wd (b:Arr 64) (i:Nat):Nat→Int
 | 0=>0
 | j+1=>bits .or .u32 (IntKind.u32.wrap (wd b i j * 256)) (IntKind.u32.wrap (b.at (4 * i+j)))
def ZdR (b:Arr 64):Nat→Arr 64
 | 0=>zA 64
 | i+1=>(ZdR b i).put i (wd b i 4)
theorem Zou (b:Arr 64):∀ (i j:Nat),i≤j→(ZdR b i).at j=0
 | 0,j,_=>ZvW
 | i+1,j,h=>by
  unfold ZdR;rw [Arr.at_put_ne _ (by omega)];exact Zou b i j (by omega)
def ZrJ (w:Arr 64) (i:Nat):Int:=IntKind.u32.wrap ((IntKind.u32.wrap ((IntKind.u32.wrap ((w.at (i-16))+(bits .xor .u32 (bits .xor .u32 (rr (w.at (i-15)) 7) (rr (w.at (i-15)) 18)) ((w.at (i-15)).fdiv 8))))+(w.at (i-7))))+(bits .xor .u32 (bits .xor .u32 (rr (w.at (i-2)) 17) (rr (w.at (i-2)) 19)) ((w.at (i-2)).fdiv 1024)))
def Zfn (w:Arr 64):Nat→Arr 64
 | 0=>w
 | k+1=>(Zfn w k).put (16+k) (ZrJ (Zfn w k) (16+k))
def Zae (b:Arr 64):Arr 64:=Zfn (ZdR b 16) 48
theorem ZaI {n i:Nat} {z:Int} {β:Type} {f:Nat→Option β} (h:z=(i:Int)) (hi:i<n):(inA n z).bind f=f i:=by
 subst h;exact XK hi
theorem ZuE (w:Arr 64):Zc3 w=some (Zfn w 48):=by
 unfold Zc3
 have:=Yg (step:=Lsha_schedule_s2) (fun k=>(((16+k:Nat):Int),Zfn w k)) 48 (x:=some (Zfn w 48)) (fun k hk=>by
  simp only [Lsha_schedule_s2];rw [if_pos (by omega),ZaI (i:=16+k-15) (by rw [wi _ (by omega)]; omega) (by omega),Zgt,Zb,Zgt,Zb,ZaI (i:=16+k-2) (by rw [wi _ (by omega)]; omega) (by omega),Zgt,Zb,Zgt,Zb,ZaI (i:=16+k-16) (by rw [wi _ (by omega)]; omega) (by omega),ZaI (i:=16+k-7) (by rw [wi _ (by omega)]; omega) (by omega),ZaI (i:=16+k) rfl (by omega),wi _ (by omega)];rfl) (by
  simp only [Lsha_schedule_s2];rw [if_neg (by omega)]
  rfl)
 exact this
theorem ZuF (w:Arr 64):Zcm w=some (Zfn w 48):=by
 unfold Zcm
 have:=Yg (step:=Lref03_schedule_s2) (fun k=>(((16+k:Nat):Int),Zfn w k)) 48 (x:=some (Zfn w 48)) (fun k hk=>by
  simp only [Lref03_schedule_s2];rw [if_pos (by omega),ZaI (i:=16+k-15) (by rw [wi _ (by omega)]; omega) (by omega),ZeP,Zb,ZeP,Zb,ZaI (i:=16+k-2) (by rw [wi _ (by omega)]; omega) (by omega),ZeP,Zb,ZeP,Zb,ZaI (i:=16+k-16) (by rw [wi _ (by omega)]; omega) (by omega),ZaI (i:=16+k-7) (by rw [wi _ (by omega)]; omega) (by omega),ZaI (i:=16+k) rfl (by omega),wi _ (by omega)];rfl) (by
  simp only [Lref03_schedule_s2];rw [if_neg (by omega)]
  rfl)
 exact this
theorem ZrK (b:Arr 64):Zb8 b=some (Zae b):=by
 unfold Zb8;refine Yg (step:=ZbW b) (fun i=>((i:Int),ZdR b i)) 16 (x:=some (Zae b)) (fun i hi=>?_) ?_
 ·simp only [ZbW]
  rw [if_pos (by omega)]
  have h0:ZdR b i=(ZdR b i).put i (wd b i 0):=by
   have:=Arr.put_at (ZdR b i) (i:=i) (by omega);rw [Zou b i i (Nat.le_refl _)] at this;exact this.symm
  have:=Yg (step:=Zat (i:Int) b) (fun j=>((j:Int),(ZdR b i).put i (wd b i j))) 4 (x:=some (.inl (((i+1:Nat):Int),(ZdR b i).put i (wd b i 4)))) (fun j hj=>by
   simp only [Zat];rw [if_pos (by omega),XK (by omega),ZaI (i:=4 * i+j) (by rw [wi (4 * (i:Int)) (by omega),wi _ (by omega)]; omega) (by omega),Arr.at_put _ (by omega),Arr.put_put,Yr hj (by omega)];rfl) (by
   simp only [Zat];rw [if_neg (by omega)]
   simp only [Zff,Yr hi (show (16:Nat)≤9223372036854775807 by omega)])
  have e:Zf (Zat (i:Int) b) (0,ZdR b i)=_:=(congrArg (fun w=>Zf (Zat (i:Int) b) (0,w)) h0).trans this;rw [e];rfl
 ·simp only [ZbW]
  rw [if_neg (by omega),ZuE];rfl
abbrev bv (x:Int):BitVec 32:=BitVec.ofInt 32 x
theorem ZkM (x:Int):IntKind.u32.wrap x=x % 2 ^ 32:=by simp [IntKind.wrap,IntKind.signed,IntKind.bits]
theorem Zov (x:Int):bv (IntKind.u32.wrap x)=bv x:=by
 rw [ZkM];apply BitVec.eq_of_toNat_eq
 simp [BitVec.toNat_ofInt]
theorem Zwb (x y:Int):bv (bits .or .u32 x y)=bv x ||| bv y:=by
 show bv (IntKind.u32.wrap ((bv x ||| bv y).toNat:Nat))=_
 rw [Zov];generalize bv x ||| bv y=r
 show BitVec.ofInt 32 (r.toNat:Int)=r
 rw [BitVec.ofInt_natCast,BitVec.ofNat_toNat];simp
theorem ZrL {x x' y y':Int} (h1:bv x=bv x') (h2:bv y=bv y'):bits .or .u32 x y=bits .or .u32 x' y' := by
 show IntKind.u32.wrap ((bv x ||| bv y).toNat:Nat)=IntKind.u32.wrap ((bv x' ||| bv y').toNat:Nat)
 rw [h1,h2]
theorem Zny (x:Int) (k:Nat) (h:BitVec.ofInt 32 (2 ^ k)=BitVec.twoPow 32 k):bv (x * 2 ^ k)=bv x <<< k:=by
 rw [BitVec.shiftLeft_eq_mul_twoPow,← h];exact BitVec.ofInt_mul _ _
def wr (b:Arr 64) (i:Nat):Int:=bits .or .u32 (bits .or .u32 (bits .or .u32 (IntKind.u32.wrap ((IntKind.u32.wrap (b.at (4 * i))) * 16777216)) (IntKind.u32.wrap ((IntKind.u32.wrap (b.at (4 * i+1))) * 65536))) (IntKind.u32.wrap ((IntKind.u32.wrap (b.at (4 * i+2))) * 256))) (IntKind.u32.wrap (b.at (4 * i+3)))
theorem Zwc (b:Arr 64) (i:Nat):wr b i=wd b i 4:=by
 unfold wr;simp only [wd];refine ZrL ?_ rfl;have e8:∀ x,bv (x * 256)=bv x <<< 8:=fun x=>Zny x 8 (by decide)
 have e16:∀ x,bv (x * 65536)=bv x <<< 16:=fun x=>Zny x 16 (by decide)
 have e24:∀ x,bv (x * 16777216)=bv x <<< 24:=fun x=>Zny x 24 (by decide)
 simp only [Zwb,Zov,e8,e16,e24];have h0:(bv 0) <<< 8=0#32:=by decide
 simp only [h0,BitVec.shiftLeft_or_distrib,← BitVec.shiftLeft_add,BitVec.zero_or,Nat.add_zero]
theorem Zqy (b:Arr 64):Zbq b=some (Zae b):=by
 unfold Zbq;refine Yg (step:=Zbg b) (fun i=>((i:Int),ZdR b i)) 16 (x:=some (Zae b)) (fun i hi=>?_) ?_
 ·simp only [Zbg]
  rw [if_pos (by omega),wi (4 * (i:Int)) (by omega),wi (4 * (i:Int)+1) (by omega),wi (4 * (i:Int)+2) (by omega),wi (4 * (i:Int)+3) (by omega),ZaI (i:=4 * i) (by omega) (by omega),ZaI (i:=4 * i+1) (by omega) (by omega),ZaI (i:=4 * i+2) (by omega) (by omega),ZaI (i:=4 * i+3) (by omega) (by omega),XK (by omega),Yr hi (by omega)];show some (Sum.inl (((i+1:Nat):Int),(ZdR b i).put i (wr b i)))=_
  rw [Zwc];rfl
 ·simp only [Zbg]
  rw [if_neg (by omega),ZuF];rfl
theorem consts:Lref03_constants=some shaK:=by
 unfold Lref03_constants
 kernel_rfl
theorem inits:Lref03_Initial=some shaInitial:=by
 unfold Lref03_Initial
 kernel_rfl
abbrev St8:=Int×Int×Int×Int×Int×Int×Int×Int
abbrev ad (x y:Int):Int:=IntKind.u32.wrap (x+y)
def t1 (s:St8) (k w:Int):Int:=match s with
 | (a,b,c,d,e,f,g,h)=>ad (ad (ad (ad h (bits .xor .u32 (bits .xor .u32 (rr e 6) (rr e 11)) (rr e 25))) (bits .xor .u32 (bits .and .u32 e f) (bits .and .u32 (bits .xor .u32 4294967295 e) g))) k) w
def t2 (s:St8):Int:=match s with
 | (a,b,c,d,e,f,g,h)=>ad (bits .xor .u32 (bits .xor .u32 (rr a 2) (rr a 13)) (rr a 22)) (bits .xor .u32 (bits .xor .u32 (bits .and .u32 a b) (bits .and .u32 a c)) (bits .and .u32 b c))
def rnd (s:St8) (k w:Int):St8:=match s with
 | (a,b,c,d,e,f,g,h)=>(ad (t1 s k w) (t2 s),a,b,c,ad d (t1 s k w),e,f,g)
def ZfM (w:Arr 64) (s:St8):Nat→St8
 | 0=>s
 | i+1=>rnd (ZfM w s i) (shaK.at i) (w.at i)
def st0 (x:Arr 8):St8:=(x.at 0,x.at 1,x.at 2,x.at 3,x.at 4,x.at 5,x.at 6,x.at 7)
noncomputable def Zi5 (x:Arr 8) (b:Arr 64):Arr 8:=match ZfM (Zae b) (st0 x) 64 with
 | (a,b,c,d,e,f,g,h)=>((((((((zA 8).put 0 (IntKind.u32.wrap ((x.at 0)+a))).put 1 (IntKind.u32.wrap ((x.at 1)+b))).put 2 (IntKind.u32.wrap ((x.at 2)+c))).put 3 (IntKind.u32.wrap ((x.at 3)+d))).put 4 (IntKind.u32.wrap ((x.at 4)+e))).put 5 (IntKind.u32.wrap ((x.at 5)+f))).put 6 (IntKind.u32.wrap ((x.at 6)+g))).put 7 (IntKind.u32.wrap ((x.at 7)+h))
def ZjI (s:St8) (i:Nat):Int×Int×Int×Int×Int×Int×Int×Int×Int:=match s with
 | (a,b,c,d,e,f,g,h)=>(a,b,c,d,e,f,g,h,(i:Int))
theorem Zs3 (x:Arr 8) (b:Arr 64):Zb9 x b=some (Zi5 x b):=by
 unfold Zb9;rw [ZrK,Zb];refine Yg (step:=ZbX (Zae b) x) (fun i=>ZjI (ZfM (Zae b) (st0 x) i) i) 64 (x:=some (Zi5 x b)) (fun i hi=>?_) ?_
 ·show _=some (Sum.inl (ZjI (rnd (ZfM (Zae b) (st0 x) i) (shaK.at i) ((Zae b).at i)) (i+1)))
  obtain ⟨a,b',c,d,e,f,g,h⟩:=ZfM (Zae b) (st0 x) i;simp only [ZjI,ZbX];refine (if_pos (show (i:Int)<64 by omega)).trans ?_;rw [Zgt,Zb,Zgt,Zb,Zgt,Zb,XK hi,Zgt,Zb,Zgt,Zb,Zgt,Zb,Yr hi (by omega)];rfl
 ·unfold Zi5
  obtain ⟨a,b',c,d,e,f,g,h⟩:=ZfM (Zae b) (st0 x) 64;simp only [ZjI,ZbX];exact (if_neg (by decide)).trans rfl
theorem ZrM (x:Arr 8) (b:Arr 64):Zai x b=some (Zi5 x b):=by
 unfold Zai;rw [Zqy,Zb,consts,Zb];refine Yg (step:=Zbh shaK (Zae b) x) (fun i=>ZjI (ZfM (Zae b) (st0 x) i) i) 64 (x:=some (Zi5 x b)) (fun i hi=>?_) ?_
 ·show _=some (Sum.inl (ZjI (rnd (ZfM (Zae b) (st0 x) i) (shaK.at i) ((Zae b).at i)) (i+1)))
  obtain ⟨a,b',c,d,e,f,g,h⟩:=ZfM (Zae b) (st0 x) i;simp only [ZjI,Zbh];refine (if_pos (show (i:Int)<64 by omega)).trans ?_;rw [ZeP,Zb,ZeP,Zb,ZeP,Zb,XK hi,ZeP,Zb,ZeP,Zb,ZeP,Zb,Yr hi (by omega)];rfl
 ·unfold Zi5
  obtain ⟨a,b',c,d,e,f,g,h⟩:=ZfM (Zae b) (st0 x) 64;simp only [ZjI,Zbh];exact (if_neg (by decide)).trans rfl
def Zd6 (n:Nat):Nat:=(64-(n+9) % 64) % 64
def ZlI (n:Nat) (j:Nat):Int:=IntKind.u8.wrap ((IntKind.u64.wrap (8 * (n:Int))).fdiv (2 ^ (56-8 * j)))
def Zan (n:Nat):List Int:=(128 :: List.replicate (Zd6 n) 0)++(List.range 8).map (ZlI n)
theorem ZkN (n:Nat):(Zan n).length=9+Zd6 n:=by simp [Zan]; omega
theorem Zkc (n:Nat):Zd6 n<64:=Nat.mod_lt _ (by omega)
theorem tm {a b:Nat}:((a:Int).tmod (b:Int))=((a % b:Nat):Int):=rfl
theorem Zwd {n:Nat} (hn:n≤1000000000):(IntKind.u64.wrap (64-((IntKind.u64.wrap ((n:Int)+9)).tmod 64))).tmod 64=(Zd6 n:Int):=by
 have e1:IntKind.u64.wrap ((n:Int)+9)=((n+9:Nat):Int):=wu _ (by omega);have e2:((n+9:Nat):Int).tmod 64=(((n+9) % 64:Nat):Int):=rfl;have h:=Nat.mod_lt (n+9) (show 64 > 0 by omega);have e3:IntKind.u64.wrap (64-(((n+9) % 64:Nat):Int))=((64-(n+9) % 64:Nat):Int):=by rw [wu _ (by omega)]; omega
 rw [e1,e2,e3];rfl
theorem Zs4 {n:Nat} (hn:n≤1000000000):Zf2 (n:Int)=some (Zan n):=by
 have hp:=Zwd hn;have hl:=Zkc n;unfold Zf2;rw [hp,wu (1+(Zd6 n:Int)) (by omega),wu (9+(Zd6 n:Int)) (by omega),Zg (by omega),Zg (by simp; omega)]
 have e0:(List.replicate ((1+(Zd6 n:Int)).toNat) (0:Int)).set 0 128=128 :: List.replicate (Zd6 n) 0:=by
  rw [show (1+(Zd6 n:Int)).toNat=Zd6 n+1 by omega,List.replicate_succ];rfl
 rw [e0]
 have:=Yg (step:=ZeK (n:Int)) (fun k=>((k:Int),(128 :: List.replicate (Zd6 n) 0)++(List.range k).map (ZlI n))) 8 (x:=some (Zan n)) (fun k hk=>by
  simp only [ZeK];rw [if_pos (by omega),wi (8 * (k:Int)) (by omega),wi (56-8 * (k:Int)) (by omega),Zg (by omega),Zg (by simp; omega),Yr hk (by omega)];have e:min (56-8 * (k:Int)).toNat 64=56-8 * k:=by omega
  rw [e,List.range_succ,List.map_append,← List.append_assoc];rfl) (by
  simp only [ZeK];rw [if_neg (by omega)]
  rfl)
 simpa using this
theorem ZrN {n:Nat} (hn:n≤1000000000) (b:List Int) (hb:b.length≤1000):Zf (Zca (n:Int)) (7,b)=some (b++(List.range 8).map (ZlI n)):=by
 have:=Yg (step:=Zca (n:Int)) (fun k=>(7-(k:Int),b++(List.range k).map (ZlI n))) 8 (x:=some (b++(List.range 8).map (ZlI n))) (fun k hk=>by
  simp only [Zca];rw [if_pos (by omega),wi (8 * (7-(k:Int))) (by omega),Zg (by omega),Zg (by simp; omega),wi (7-(k:Int)-1) (by omega)];have e:min (8 * (7-(k:Int))).toNat 64=56-8 * k:=by omega
  rw [e,List.range_succ,List.map_append,← List.append_assoc,show 7-(k:Int)-1=7-((k+1:Nat):Int) by omega];rfl) (by
  simp only [Zca];rw [if_neg (by omega)]
  rfl)
 simpa using this
theorem Zs5 {n:Nat} (hn:n≤1000000000):Zem (n:Int)=some (Zan n):=by
 have hl:=Zkc n;unfold Zem
 have key:∀ k,k≤Zd6 n→(IntKind.u64.wrap ((IntKind.u64.wrap ((n:Int)+(IntKind.u64.wrap (((128 :: List.replicate k (0:Int)).length:Nat):Int))))+8)).tmod 64=(((n+k+9) % 64:Nat):Int):=by
  intro k hk;have e:(128 :: List.replicate k (0:Int)).length=k+1:=by simp
  rw [e,wu ((k+1:Nat):Int) (by omega),wu ((n:Int)+((k+1:Nat):Int)) (by omega),wu _ (by omega),show ((n:Int)+((k+1:Nat):Int)+8)=((n+k+9:Nat):Int) by omega];exact tm
 have:=Yg (step:=Zdi (n:Int)) (fun k=>128 :: List.replicate k (0:Int)) (Zd6 n) (x:=some (Zan n)) (fun k hk=>by
  simp only [Zdi];rw [key k (by omega),if_pos,Zg (by simp; omega)]
  ·rw [List.cons_append,← List.replicate_succ']
  ·have:¬ (n+k+9) % 64=0:=by unfold Zd6 at hk; omega
   omega) (by
  simp only [Zdi];rw [key _ (Nat.le_refl _),if_neg]
  ·unfold ZgQ
   rw [ZrN hn _ (by simp; omega)];rfl
  ·have:(n+Zd6 n+9) % 64=0:=by unfold Zd6; omega
   omega)
 simpa using this
def blk (y:List Int) (i:Nat):Arr 64:=ZkJ 64 (y.drop (64 * i))
noncomputable def hsh (y:List Int):Nat→Arr 8
 | 0=>shaInitial
 | i+1=>Zi5 (hsh y i) (blk y i)
theorem Zqz {l:List Int} (h:64≤l.length):(zA 64).over l=ZkJ 64 l:=by
 unfold Arr.over ZkJ;rw [dif_pos h];have hz:=(zA 64).hl;have e:(zA 64).l.drop (min l.length 64)=[]:=List.drop_eq_nil_of_le (by omega);simp only [e,List.append_nil]
def byt (h:Arr 8) (k:Nat):Int:=IntKind.u8.wrap ((h.at (k / 4)).fdiv (2 ^ (24-(k % 4) * 8)))
def ZgZ (h:Arr 8):Nat→Arr 32
 | 0=>zA 32
 | k+1=>(ZgZ h k).put k (byt h k)
theorem Zs6 (h:Arr 8):Zgq h=some (ZgZ h 32):=by
 unfold Zgq;refine Yg (step:=ZeL h) (fun k=>((k:Int),ZgZ h k)) 32 (x:=some (ZgZ h 32)) (fun k hk=>?_) ?_
 ·simp only [ZeL]
  have e4:(k:Int).tmod 4=((k % 4:Nat):Int):=tm;have d4:(k:Int).tdiv 4=((k / 4:Nat):Int):=rfl;rw [if_pos (by omega),e4,d4,wi (((k / 4:Nat):Int)) (by omega),wi (((k % 4:Nat):Int) * 8) (by omega),wi (24-((k % 4:Nat):Int) * 8) (by omega),XK (by omega),Zg (by omega),XK hk,Yr hk (by omega)];have e:min (24-((k % 4:Nat):Int) * 8).toNat 32=24-(k % 4) * 8:=by omega
  rw [e];rfl
 ·simp only [ZeL]
  rw [if_neg (by omega)];rfl
theorem Zs7 (h:Arr 8):ZeW h=some (ZgZ h 32):=by
 unfold ZeW;refine Yg (step:=Zdj h) (fun i=>((i:Int),ZgZ h (4 * i))) 8 (x:=some (ZgZ h 32)) (fun i hi=>?_) ?_
 ·simp only [Zdj]
  rw [if_pos (by omega),wi (4 * (i:Int)) (by omega),wi (4 * (i:Int)+1) (by omega),wi (4 * (i:Int)+2) (by omega),wi (4 * (i:Int)+3) (by omega),XK hi,ZaI (i:=4 * i) (by omega) (by omega),ZaI (i:=4 * i+1) (by omega) (by omega),ZaI (i:=4 * i+2) (by omega) (by omega),ZaI (i:=4 * i+3) (by omega) (by omega),Yr hi (by omega)]
  have b0:byt h (4 * i)=IntKind.u8.wrap ((h.at i).fdiv 16777216):=by
   unfold byt;rw [show 4 * i / 4=i by omega,show 4 * i % 4=0 by omega];rfl
  have b1:byt h (4 * i+1)=IntKind.u8.wrap ((h.at i).fdiv 65536):=by
   unfold byt;rw [show (4 * i+1) / 4=i by omega,show (4 * i+1) % 4=1 by omega];rfl
  have b2:byt h (4 * i+2)=IntKind.u8.wrap ((h.at i).fdiv 256):=by
   unfold byt;rw [show (4 * i+2) / 4=i by omega,show (4 * i+2) % 4=2 by omega];rfl
  have b3:byt h (4 * i+3)=IntKind.u8.wrap (h.at i):=by
   unfold byt;rw [show (4 * i+3) / 4=i by omega,show (4 * i+3) % 4=3 by omega];show IntKind.u8.wrap ((h.at i).fdiv 1)=_
   rw [Int.fdiv_one]
  rw [show 4 * (i+1)=4 * i+3+1 by omega];simp only [ZgZ];rw [b0,b1,b2,b3]
 ·simp only [Zdj]
  rw [if_neg (by omega)];rfl
noncomputable def Zd7 (a:List Int):Arr 32:=ZgZ (hsh (a++Zan a.length) ((a.length+(Zan a.length).length) / 64)) 32
theorem ZjJ (n:Nat):(n+(Zan n).length) % 64=0:=by
 rw [ZkN];unfold Zd6;omega
theorem Zs8 {a b:List Int} (ha:a.length≤1000000000) (hb:b.length≤1000000000):Zf1 [a,b]=some (a++b):=by
 unfold Zf1
 rw [ZM (s' := (1,a)) (by
  simp only [ZeJ];rw [if_pos (by simp),show (0:Int)=((0:Nat):Int) from rfl,Zt (by simp),Zg (by simp; omega)];simp [wi]),ZM (s' := (2,a++b)) (by
  simp only [ZeJ];rw [if_pos (by simp),show (1:Int)=((1:Nat):Int) from rfl,Zt (by simp),Zg (by simp; omega)]
  simp [wi])]
 refine Yv ?_;simp only [ZeJ];rw [if_neg (by simp)];rfl
theorem Zow {a:List Int} (h:a.length≤100000000):Zfg a=some (Zd7 a):=by
 have hp:=ZkN a.length;have hl:=Zkc a.length;have ht:=ZjJ a.length;unfold Zfg;rw [wu _ (by omega),Zs4 (by omega),Zb,Zs8 (by omega) (by omega),Zb];have hlen:(a++Zan a.length).length=a.length+(Zan a.length).length:=by simp
 have hd:((a++Zan a.length).length:Int).tdiv 64=(((a.length+(Zan a.length).length) / 64:Nat):Int):=by rw [hlen]; rfl
 refine Yg (step:=ZeM (a++Zan a.length)) (fun i=>((i:Int),hsh (a++Zan a.length) i)) ((a.length+(Zan a.length).length) / 64) (x:=some (Zd7 a)) (fun i hi=>?_) ?_
 ·simp only [ZeM]
  rw [hd,wi (((a.length+(Zan a.length).length) / 64:Nat):Int) (by omega),if_pos (by omega),wi (64 * (i:Int)) (by omega),Zg (by omega),Zg (by omega),show (64 * (i:Int)).toNat=64 * i by omega,Zs3,Zb,Yr hi (by omega)];rfl
 ·simp only [ZeM]
  rw [hd,wi (((a.length+(Zan a.length).length) / 64:Nat):Int) (by omega),if_neg (by omega),Zs6];rfl
theorem ZlJ {a:List Int} (h:a.length≤100000000):ZaE a=some (Zd7 a):=by
 have hp:=ZkN a.length;have hl:=Zkc a.length;have ht:=ZjJ a.length;unfold ZaE;rw [Zg (by omega),wu _ (by omega),Zs5 (by omega),Zb,Zg (by omega),inits,Zb];have hlen:(a++Zan a.length).length=a.length+(Zan a.length).length:=by simp
 refine Yg (step:=Zdk a (Zan a.length)) (fun i=>((64 * i:Int),hsh (a++Zan a.length) i)) ((a.length+(Zan a.length).length) / 64) (x:=some (Zd7 a)) (fun i hi=>?_) ?_
 ·simp only [Zdk]
  rw [wi (64 * (i:Int)+64) (by omega),if_pos (by omega),Zg (by omega),show (64 * (i:Int)).toNat=64 * i by omega,Zqz (by rw [List.length_drop]; omega),ZrM,Zb,show 64 * (i:Int)+64=64 * ((i+1:Nat):Int) by omega];rfl
 ·simp only [Zdk]
  rw [wi _ (by omega),if_neg (by omega),Zs7];rfl
theorem ZuG {a:List Int} (h:a.length≤100000000):Zdv a=some (Zd7 (Zd7 a).l):=by
 have:=(Zd7 a).hl;unfold Zdv;rw [Zow h,Zb,Zow (by omega)];rfl
theorem Zox {a:List Int} (h:a.length≤100000000):ZaJ a=some (Zd7 (Zd7 a).l):=by
 have:=(Zd7 a).hl;unfold ZaJ;rw [ZlJ h,Zb,ZlJ (by omega)];rfl
section
set_option maxRecDepth 100000
def Wd (x:Int) (n:Nat):Prop:=x=(n:Int)∧n<4294967296
noncomputable def aN (x y:Nat):Nat:=Nat.mod (Nat.add x y) 4294967296
noncomputable def rN (k x:Nat):Nat:=Nat.lor (Nat.mod (Nat.shiftLeft x (Nat.sub 32 k)) 4294967296) (Nat.shiftRight x k)
noncomputable def s0N (w:Nat):Nat:=Nat.xor (Nat.xor (rN 7 w) (rN 18 w)) (Nat.shiftRight w 3)
noncomputable def s1N (w:Nat):Nat:=Nat.xor (Nat.xor (rN 17 w) (rN 19 w)) (Nat.shiftRight w 10)
noncomputable def e1N (e:Nat):Nat:=Nat.xor (Nat.xor (rN 6 e) (rN 11 e)) (rN 25 e)
noncomputable def e0N (a:Nat):Nat:=Nat.xor (Nat.xor (rN 2 a) (rN 13 a)) (rN 22 a)
noncomputable def chN (e f g:Nat):Nat:=Nat.xor (Nat.land e f) (Nat.land (Nat.xor 4294967295 e) g)
noncomputable def mjN (a b c:Nat):Nat:=Nat.xor (Nat.xor (Nat.land a b) (Nat.land a c)) (Nat.land b c)
noncomputable def ZkO (w0 w1 w9 w14:Nat):Nat:=aN (aN (aN w0 (s0N w1)) w9) (s1N w14)
noncomputable def t1N (e f g h k w:Nat):Nat:=aN (aN (aN (aN h (e1N e)) (chN e f g)) k) w
noncomputable def t2N (a b c:Nat):Nat:=aN (e0N a) (mjN a b c)
theorem Zhl (n:Nat):IntKind.u32.wrap (n:Int)=((n % 4294967296:Nat):Int):=by
 rw [ZkM,show (2:Int) ^ 32=4294967296 from rfl];omega
theorem ZdS {x y:Int} {n m:Nat} (h:Wd x n) (k:Wd y m):Wd (ad x y) (aN n m):=by
 obtain ⟨rfl,h⟩:=h;obtain ⟨rfl,k⟩:=k;refine ⟨?_,Nat.mod_lt _ (by omega)⟩;show IntKind.u32.wrap ((n:Int)+(m:Int))=(((n+m) % 4294967296:Nat):Int)
 rw [ZkM,show (2:Int) ^ 32=4294967296 from rfl];omega
theorem Zis {n:Nat} (h:n<4294967296):(bv (n:Int)).toNat=n:=by
 show (BitVec.ofInt 32 (n:Int)).toNat=n
 rw [BitVec.ofInt_natCast,BitVec.toNat_ofNat];omega
theorem Ze7 {x y:Int} {n m:Nat} (h:Wd x n) (k:Wd y m):Wd (bits .xor .u32 x y) (Nat.xor n m):=by
 obtain ⟨rfl,h⟩:=h;obtain ⟨rfl,k⟩:=k;have lt:n ^^^ m<2 ^ 32:=Nat.xor_lt_two_pow (by omega) (by omega);refine ⟨?_,lt⟩;show IntKind.u32.wrap ((bv (n:Int) ^^^ bv (m:Int)).toNat:Nat)=_
 rw [BitVec.toNat_xor,Zis h,Zis k,Zhl,Nat.mod_eq_of_lt (by omega)];rfl
theorem Zlk {x y:Int} {n m:Nat} (h:Wd x n) (k:Wd y m):Wd (bits .and .u32 x y) (Nat.land n m):=by
 obtain ⟨rfl,h⟩:=h;obtain ⟨rfl,k⟩:=k;have lt:n &&& m<2 ^ 32:=Nat.and_lt_two_pow _ (by omega);refine ⟨?_,lt⟩;show IntKind.u32.wrap ((bv (n:Int) &&& bv (m:Int)).toNat:Nat)=_
 rw [BitVec.toNat_and,Zis h,Zis k,Zhl,Nat.mod_eq_of_lt (by omega)];rfl
theorem or_W {x y:Int} {n m:Nat} (h:Wd x n) (k:Wd y m):Wd (bits .or .u32 x y) (Nat.lor n m):=by
 obtain ⟨rfl,h⟩:=h;obtain ⟨rfl,k⟩:=k;have lt:n ||| m<2 ^ 32:=Nat.or_lt_two_pow (by omega) (by omega)
 refine ⟨?_,lt⟩;show IntKind.u32.wrap ((bv (n:Int) ||| bv (m:Int)).toNat:Nat)=_
 rw [BitVec.toNat_or,Zis h,Zis k,Zhl,Nat.mod_eq_of_lt (by omega)];rfl
theorem Zsm (n k:Nat):((n:Int)).fdiv ((2 ^ k:Nat):Int)=((Nat.shiftRight n k:Nat):Int):=by
 rw [Int.fdiv_eq_ediv_of_nonneg _ (Int.natCast_nonneg _)];show ((n / 2 ^ k:Nat):Int)=((n >>> k:Nat):Int)
 rw [Nat.shiftRight_eq_div_pow]
theorem Zpu {x c:Int} {n:Nat} (k:Nat) (hc:c=((2 ^ k:Nat):Int)) (h:Wd x n):Wd (x.fdiv c) (Nat.shiftRight n k):=by
 obtain ⟨rfl,h⟩:=h;subst hc;refine ⟨Zsm n k,?_⟩;show n >>> k<4294967296
 rw [Nat.shiftRight_eq_div_pow];exact Nat.lt_of_le_of_lt (Nat.div_le_self _ _) h
theorem Zwe {x:Int} {n:Nat} (j:Nat) (h:Wd x n):Wd (IntKind.u32.wrap (x * 2 ^ j)) (Nat.mod (Nat.shiftLeft n j) 4294967296):=by
 obtain ⟨rfl,h⟩:=h;refine ⟨?_,Nat.mod_lt _ (by omega)⟩
 have e:(n:Int) * 2 ^ j=((n <<< j:Nat):Int):=by
  rw [Nat.shiftLeft_eq,Int.natCast_mul,Int.natCast_pow];rfl
 rw [e,Zhl];rfl
theorem Zh7 {x ki:Int} {n:Nat} (k:Nat) (h1:min (bits .and .u64 (IntKind.u64.wrap (IntKind.i64.wrap (-ki))) 31).toNat 32=32-k) (h2:min (IntKind.u64.wrap (32-bits .and .u64 (IntKind.u64.wrap (IntKind.i64.wrap (-ki))) 31)).toNat 32=k) (h:Wd x n):Wd (rr x ki) (rN k n):=by
 unfold rr rot;rw [h1,h2];exact or_W (Zwe (32-k) h) (Zpu k (by rw [Int.natCast_pow]; rfl) h)
theorem rr2 {x:Int} {n:Nat} (h:Wd x n):Wd (rr x 2) (rN 2 n):=Zh7 2 (by kernel_rfl) (by kernel_rfl) h
theorem rr6 {x:Int} {n:Nat} (h:Wd x n):Wd (rr x 6) (rN 6 n):=Zh7 6 (by kernel_rfl) (by kernel_rfl) h
theorem rr7 {x:Int} {n:Nat} (h:Wd x n):Wd (rr x 7) (rN 7 n):=Zh7 7 (by kernel_rfl) (by kernel_rfl) h
theorem rr11 {x:Int} {n:Nat} (h:Wd x n):Wd (rr x 11) (rN 11 n):=Zh7 11 (by kernel_rfl) (by kernel_rfl) h
theorem rr13 {x:Int} {n:Nat} (h:Wd x n):Wd (rr x 13) (rN 13 n):=Zh7 13 (by kernel_rfl) (by kernel_rfl) h
theorem rr17 {x:Int} {n:Nat} (h:Wd x n):Wd (rr x 17) (rN 17 n):=Zh7 17 (by kernel_rfl) (by kernel_rfl) h
theorem rr18 {x:Int} {n:Nat} (h:Wd x n):Wd (rr x 18) (rN 18 n):=Zh7 18 (by kernel_rfl) (by kernel_rfl) h
theorem rr19 {x:Int} {n:Nat} (h:Wd x n):Wd (rr x 19) (rN 19 n):=Zh7 19 (by kernel_rfl) (by kernel_rfl) h
theorem rr22 {x:Int} {n:Nat} (h:Wd x n):Wd (rr x 22) (rN 22 n):=Zh7 22 (by kernel_rfl) (by kernel_rfl) h
theorem rr25 {x:Int} {n:Nat} (h:Wd x n):Wd (rr x 25) (rN 25 n):=Zh7 25 (by kernel_rfl) (by kernel_rfl) h
theorem Zwf {w:Arr 64} {i a b c d:Nat} (h0:Wd (w.at (i-16)) a) (h1:Wd (w.at (i-15)) b) (h9:Wd (w.at (i-7)) c) (h14:Wd (w.at (i-2)) d):Wd (ZrJ w i) (ZkO a b c d) :=
 ZdS (ZdS (ZdS h0 (Ze7 (Ze7 (rr7 h1) (rr18 h1)) (Zpu 3 rfl h1))) h9) (Ze7 (Ze7 (rr17 h14) (rr19 h14)) (Zpu 10 rfl h14))
def Sw (s:St8) (a b c d e f g h:Nat):Prop:=Wd s.1 a∧Wd s.2.1 b∧Wd s.2.2.1 c∧Wd s.2.2.2.1 d∧Wd s.2.2.2.2.1 e∧Wd s.2.2.2.2.2.1 f∧Wd s.2.2.2.2.2.2.1 g∧Wd s.2.2.2.2.2.2.2 h
theorem Zwg {s:St8} {a b c d e f g h kn wn:Nat} {k w:Int} (hs:Sw s a b c d e f g h) (hk:Wd k kn) (hw:Wd w wn):Sw (rnd s k w) (aN (t1N e f g h kn wn) (t2N a b c)) a b c (aN d (t1N e f g h kn wn)) e f g:=by
 obtain ⟨x1,x2,x3,x4,x5,x6,x7,x8⟩:=s;obtain ⟨h1,h2,h3,h4,h5,h6,h7,h8⟩:=hs;have c1:Wd (4294967295:Int) 4294967295:=⟨rfl,by omega⟩
 have t1:Wd (t1 (x1,x2,x3,x4,x5,x6,x7,x8) k w) (t1N e f g h kn wn):=ZdS (ZdS (ZdS (ZdS h8 (Ze7 (Ze7 (rr6 h5) (rr11 h5)) (rr25 h5))) (Ze7 (Zlk h5 h6) (Zlk (Ze7 c1 h5) h7))) hk) hw;have t2:Wd (t2 (x1,x2,x3,x4,x5,x6,x7,x8)) (t2N a b c):=ZdS (Ze7 (Ze7 (rr2 h1) (rr13 h1)) (rr22 h1)) (Ze7 (Ze7 (Zlk h1 h2) (Zlk h1 h3)) (Zlk h2 h3));exact ⟨ZdS t1 t2,h1,h2,h3,ZdS h4 t1,h5,h6,h7⟩
noncomputable def goN {β:Type} (q:Nat→Nat→Nat→Nat→Nat→Nat→Nat→Nat→β) (ks:List Nat):Nat→Nat→Nat→Nat→Nat→Nat→Nat→Nat→Nat→Nat→Nat→Nat→Nat→Nat→Nat→Nat→Nat→Nat→Nat→Nat→Nat→Nat→Nat→Nat→β :=
 List.rec (motive:=fun _=>Nat→Nat→Nat→Nat→Nat→Nat→Nat→Nat→Nat→Nat→Nat→Nat→Nat→Nat→Nat→Nat→Nat→Nat→Nat→Nat→Nat→Nat→Nat→Nat→β) (fun _ _ _ _ _ _ _ _ _ _ _ _ _ _ _ _ a b c d e f g h=>q a b c d e f g h) (fun k _ ih w0 w1 w2 w3 w4 w5 w6 w7 w8 w9 w10 w11 w12 w13 w14 w15 a b c d e f g h=>ZD (t1N e f g h k w0) fun t=>ZD (aN t (t2N a b c)) fun a'=>ZD (aN d t) fun e'=>ZD (ZkO w0 w1 w9 w14) fun w=>ih w1 w2 w3 w4 w5 w6 w7 w8 w9 w10 w11 w12 w13 w14 w15 w a' a b c e' e f g) ks
theorem ZrO {β:Type} (q:Nat→Nat→Nat→Nat→Nat→Nat→Nat→Nat→β) (k:Nat) (ks:List Nat) (w0 w1 w2 w3 w4 w5 w6 w7 w8 w9 w10 w11 w12 w13 w14 w15 a b c d e f g h:Nat):goN q (k :: ks) w0 w1 w2 w3 w4 w5 w6 w7 w8 w9 w10 w11 w12 w13 w14 w15 a b c d e f g h=goN q ks w1 w2 w3 w4 w5 w6 w7 w8 w9 w10 w11 w12 w13 w14 w15 (ZkO w0 w1 w9 w14) (aN (t1N e f g h k w0) (t2N a b c)) a b c (aN d (t1N e f g h k w0)) e f g:=by
 show ZD (t1N e f g h k w0) (fun t=>ZD (aN t (t2N a b c)) fun a'=>ZD (aN d t) fun e'=>ZD (ZkO w0 w1 w9 w14) fun w=>goN q ks w1 w2 w3 w4 w5 w6 w7 w8 w9 w10 w11 w12 w13 w14 w15 w a' a b c e' e f g)=_
 rw [Yi,Yi,Yi,Yi]
theorem Zoy (w:Arr 64) {t:Nat}:∀ {k k':Nat},k'≤k→t<16+k'→(Zfn w k).at t=(Zfn w k').at t:=by
 intro k;induction k with
 | zero=>intro k' h _; rw [show k'=0 by omega]
 | succ k ih =>
  intro k' h ht;by_cases e:k'=k+1
  ·rw [e]
  ·show ((Zfn w k).put (16+k) _).at t=_
   rw [Arr.at_put_ne _ (by omega)];exact ih (by omega) ht
theorem ZrP (b:Arr 64) {t:Nat} (h:16+t<64):(Zae b).at (16+t)=ZrJ (Zfn (ZdR b 16) t) (16+t):=by
 unfold Zae;rw [Zoy (k' := t+1) _ (by omega) (by omega)];show ((Zfn (ZdR b 16) t).put (16+t) _).at (16+t)=_
 rw [Arr.at_put _ h]
theorem ZhL (b:Arr 64) {t j:Nat} (h:j<16+t) (ht:t≤48):(Zfn (ZdR b 16) t).at j=(Zae b).at j:=(Zoy _ ht h).symm
theorem Zs9 (b:Arr 64) {t:Nat}:∀ {i:Nat},t<i→i≤64→(ZdR b i).at t=wd b t 4:=by
 intro i;induction i with
 | zero=>intro h _; omega
 | succ i ih =>
  intro h hi;by_cases e:t=i
  ·subst e
   exact Arr.at_put _ (by omega) _
  ·show ((ZdR b i).put i _).at t=_
   rw [Arr.at_put_ne _ (by omega)];exact ih (by omega) (by omega)
theorem ZrQ (b:Arr 64) {t:Nat} (h:t<16):(Zae b).at t=wd b t 4:=by
 rw [← ZhL b (t:=0) (by omega) (by omega)];exact Zs9 b h (by omega)
theorem ZuI {β:Type} (q:Nat→Nat→Nat→Nat→Nat→Nat→Nat→Nat→β) (bl:Arr 64) (st:St8):∀ (ks:List Nat) (i:Nat),i+ks.length=64→(∀ j,j<ks.length→Wd (shaK.at (i+j)) (ks.getD j 0))→∀ (w0 w1 w2 w3 w4 w5 w6 w7 w8 w9 w10 w11 w12 w13 w14 w15 a b c d e f g h:Nat),(∀ j,j<16→i+j<64→Wd ((Zae bl).at (i+j)) ([w0,w1,w2,w3,w4,w5,w6,w7,w8,w9,w10,w11,w12,w13,w14,w15].getD j 0))→Sw (ZfM (Zae bl) st i) a b c d e f g h →
  ∃ a' b' c' d' e' f' g' h',goN q ks w0 w1 w2 w3 w4 w5 w6 w7 w8 w9 w10 w11 w12 w13 w14 w15 a b c d e f g h=q a' b' c' d' e' f' g' h'∧Sw (ZfM (Zae bl) st 64) a' b' c' d' e' f' g' h' := by
 intro ks;induction ks with
 | nil =>
  intro i hi _ w0 w1 w2 w3 w4 w5 w6 w7 w8 w9 w10 w11 w12 w13 w14 w15 a b c d e f g h _ hs;obtain rfl:i=64:=by simpa using hi
  exact ⟨_,_,_,_,_,_,_,_,rfl,hs⟩
 | cons k ks ih =>
  intro i hi hk w0 w1 w2 w3 w4 w5 w6 w7 w8 w9 w10 w11 w12 w13 w14 w15 a b c d e f g h hw hs;rw [List.length_cons] at hi;rw [ZrO];have k0:Wd (shaK.at i) k:=hk 0 (by simp);have w0':Wd ((Zae bl).at i) w0:=hw 0 (by omega) (by omega);refine ih (i+1) (by omega) (fun j hj=>?_) w1 w2 w3 w4 w5 w6 w7 w8 w9 w10 w11 w12 w13 w14 w15 _ _ _ _ _ _ _ _ _ (fun j hj hij=>?_) (Zwg hs k0 w0')
  ·have:=hk (j+1) (by simpa using hj)
   rw [show i+1+j=i+(j+1) by omega];exact this
  ·by_cases e:j=15
   ·subst e
    show Wd _ (ZkO w0 w1 w9 w14)
    rw [show i+1+15=16+i by omega,ZrP bl (by omega)];refine Zwf ?_ ?_ ?_ ?_
    ·rw [show 16+i-16=i by omega,ZhL bl (by omega) (by omega)]
     exact w0'
    ·rw [show 16+i-15=i+1 by omega,ZhL bl (by omega) (by omega)]
     exact hw 1 (by omega) (by omega)
    ·rw [show 16+i-7=i+9 by omega,ZhL bl (by omega) (by omega)]
     exact hw 9 (by omega) (by omega)
    ·rw [show 16+i-2=i+14 by omega,ZhL bl (by omega) (by omega)]
     exact hw 14 (by omega) (by omega)
   ·have:=hw (j+1) (by omega) (by omega)
    rw [show i+1+j=i+(j+1) by omega]
    have e2:([w1,w2,w3,w4,w5,w6,w7,w8,w9,w10,w11,w12,w13,w14,w15]++[ZkO w0 w1 w9 w14]).getD j 0=[w1,w2,w3,w4,w5,w6,w7,w8,w9,w10,w11,w12,w13,w14,w15].getD j 0:=by
     simp only [List.getD_eq_getElem?_getD];rw [List.getElem?_append_left (by simp; omega)]
    show Wd _ (([w1,w2,w3,w4,w5,w6,w7,w8,w9,w10,w11,w12,w13,w14,w15]++[ZkO w0 w1 w9 w14]).getD j 0)
    rw [e2];exact this
noncomputable def ZhM (y:List Nat):Nat→Nat:=List.rec (motive:=fun _=>Nat→Nat) (fun _=>0) (fun a _ ih q=>Nat.rec (motive:=fun _=>Nat) a (fun m _=>ih m) q) y
theorem Zta (y:List Nat):∀ q,ZhM y q=y.getD q 0:=by
 induction y with
 | nil=>intro q; simp [ZhM]
 | cons a y ih =>
  intro q;cases q with
  | zero=>rfl
  | succ q =>
   show ZhM y q=_
   rw [ih];simp
noncomputable def wdN (x y:Nat):Nat:=Nat.lor (Nat.mod (Nat.mul x 256) 4294967296) (Nat.mod y 4294967296)
noncomputable def Yb (y:List Nat) (p:Nat):Nat:=wdN (wdN (wdN (wdN 0 (ZhM y p)) (ZhM y (Nat.add p 1))) (ZhM y (Nat.add p 2))) (ZhM y (Nat.add p 3))
theorem ZmH {x z:Int} {n m:Nat} (h:Wd x n) (k:z=(m:Int)):Wd (bits .or .u32 (IntKind.u32.wrap (x * 256)) (IntKind.u32.wrap z)) (wdN n m):=by
 obtain ⟨rfl,h⟩:=h;subst k;refine or_W ⟨?_,Nat.mod_lt _ (by omega)⟩ ⟨Zhl m,Nat.mod_lt _ (by omega)⟩;rw [show (n:Int) * 256=((n * 256:Nat):Int) by omega,Zhl];rfl
theorem ZuJ {bl:Arr 64} {y:List Nat} {p i:Nat} (h:∀ j,j<64→bl.at j=((y.getD (p+j) 0:Nat):Int)) (hi:i<16):Wd (wd bl i 4) (Yb y (p+4 * i)):=by
 have z:Wd (0:Int) 0:=⟨rfl,by omega⟩
 have g:∀ j,j<4→bl.at (4 * i+j)=((ZhM y (p+4 * i+j):Nat):Int):=fun j hj=>by
  rw [h _ (by omega),Zta,Nat.add_assoc]
 exact ZmH (ZmH (ZmH (ZmH z (g 0 (by omega))) (g 1 (by omega))) (g 2 (by omega))) (g 3 (by omega))
noncomputable def kN:List Nat:=[1116352408,1899447441,3049323471,3921009573,961987163,1508970993,2453635748,2870763221,3624381080,310598401,607225278,1426881987,1925078388,2162078206,2614888103,3248222580,3835390401,4022224774,264347078,604807628,770255983,1249150122,1555081692,1996064986,2554220882,2821834349,2952996808,3210313671,3336571891,3584528711,113926993,338241895,666307205,773529912,1294757372,1396182291,1695183700,1986661051,2177026350,2456956037,2730485921,2820302411,3259730800,3345764771,3516065817,3600352804,4094571909,275423344,430227734,506948616,659060556,883997877,958139571,1322822218,1537002063,1747873779,1955562222,2024104815,2227730452,2361852424,2428436474,2756734187,3204031479,3329325298]
theorem kN_ok:shaK.l=kN.map Int.ofNat∧kN.all (fun n=>decide (n<4294967296))=true:=by constructor <;> kernel_rfl
theorem kN_W {j:Nat} (h:j<64):Wd (shaK.at j) (kN.getD j 0):=by
 have hl:kN.length=64:=rfl
 have e:shaK.at j=((kN.getD j 0:Nat):Int):=by
  unfold Arr.at;rw [kN_ok.1];simp only [List.getD_eq_getElem?_getD,List.getElem?_map];rw [List.getElem?_eq_getElem (by omega)];rfl
 refine ⟨e,?_⟩
 have:=List.all_eq_true.1 kN_ok.2 (kN.getD j 0) (by
  simp only [List.getD_eq_getElem?_getD];rw [List.getElem?_eq_getElem (by omega)]
  exact List.getElem_mem _)
 simpa using this
noncomputable def Zkd (y:List Nat) (n:Nat):Nat→Nat→Nat→Nat→Nat→Nat→Nat→Nat→Nat→List Nat :=
 Nat.rec (motive:=fun _=>Nat→Nat→Nat→Nat→Nat→Nat→Nat→Nat→Nat→List Nat) (fun _ a b c d e f g h=>[a,b,c,d,e,f,g,h]) (fun _ ih p a b c d e f g h=>ZD (Yb y (Nat.add p 0)) fun w0=>ZD (Yb y (Nat.add p 4)) fun w1=>ZD (Yb y (Nat.add p 8)) fun w2=>ZD (Yb y (Nat.add p 12)) fun w3=>ZD (Yb y (Nat.add p 16)) fun w4=>ZD (Yb y (Nat.add p 20)) fun w5=>ZD (Yb y (Nat.add p 24)) fun w6=>ZD (Yb y (Nat.add p 28)) fun w7=>ZD (Yb y (Nat.add p 32)) fun w8=>ZD (Yb y (Nat.add p 36)) fun w9=>ZD (Yb y (Nat.add p 40)) fun w10=>ZD (Yb y (Nat.add p 44)) fun w11=>ZD (Yb y (Nat.add p 48)) fun w12=>ZD (Yb y (Nat.add p 52)) fun w13=>ZD (Yb y (Nat.add p 56)) fun w14=>ZD (Yb y (Nat.add p 60)) fun w15=>goN (fun a' b' c' d' e' f' g' h'=>ZD (aN a a') fun a''=>ZD (aN b b') fun b''=>ZD (aN c c') fun c''=>ZD (aN d d') fun d''=>ZD (aN e e') fun e''=>ZD (aN f f') fun f''=>ZD (aN g g') fun g''=>ZD (aN h h') fun h''=>ZD (Nat.add p 64) fun p=>ih p a'' b'' c'' d'' e'' f'' g'' h'') kN w0 w1 w2 w3 w4 w5 w6 w7 w8 w9 w10 w11 w12 w13 w14 w15 a b c d e f g h) n
def A8 (x:Arr 8) (a b c d e f g h:Nat):Prop:=Sw (st0 x) a b c d e f g h
theorem ZuK {x:Arr 8} {bl:Arr 64} {a b c d e f g h a' b' c' d' e' f' g' h':Nat} (hx:A8 x a b c d e f g h) (hs:Sw (ZfM (Zae bl) (st0 x) 64) a' b' c' d' e' f' g' h'):A8 (Zi5 x bl) (aN a a') (aN b b') (aN c c') (aN d d') (aN e e') (aN f f') (aN g g') (aN h h'):=by
 unfold Zi5 A8;generalize ZfM (Zae bl) (st0 x) 64=r at hs ⊢;obtain ⟨y1,y2,y3,y4,y5,y6,y7,y8⟩:=r;obtain ⟨h1,h2,h3,h4,h5,h6,h7,h8⟩:=hs;obtain ⟨k1,k2,k3,k4,k5,k6,k7,k8⟩:=hx;try dsimp only at h1 h2 h3 h4 h5 h6 h7 h8
 refine ⟨?_,?_,?_,?_,?_,?_,?_,?_⟩
 ·show Wd ((((((((((zA 8).put 0 (ad (x.at 0) y1)).put 1 (ad (x.at 1) y2)).put 2 (ad (x.at 2) y3)).put 3 (ad (x.at 3) y4)).put 4 (ad (x.at 4) y5)).put 5 (ad (x.at 5) y6)).put 6 (ad (x.at 6) y7)).put 7 (ad (x.at 7) y8)).at 0) _
  rw [Arr.at_put_ne _ (by omega),Arr.at_put_ne _ (by omega),Arr.at_put_ne _ (by omega),Arr.at_put_ne _ (by omega),Arr.at_put_ne _ (by omega),Arr.at_put_ne _ (by omega),Arr.at_put_ne _ (by omega),Arr.at_put _ (by omega)];exact ZdS k1 h1
 ·show Wd ((((((((((zA 8).put 0 (ad (x.at 0) y1)).put 1 (ad (x.at 1) y2)).put 2 (ad (x.at 2) y3)).put 3 (ad (x.at 3) y4)).put 4 (ad (x.at 4) y5)).put 5 (ad (x.at 5) y6)).put 6 (ad (x.at 6) y7)).put 7 (ad (x.at 7) y8)).at 1) _
  rw [Arr.at_put_ne _ (by omega),Arr.at_put_ne _ (by omega),Arr.at_put_ne _ (by omega),Arr.at_put_ne _ (by omega),Arr.at_put_ne _ (by omega),Arr.at_put_ne _ (by omega),Arr.at_put _ (by omega)];exact ZdS k2 h2
 ·show Wd ((((((((((zA 8).put 0 (ad (x.at 0) y1)).put 1 (ad (x.at 1) y2)).put 2 (ad (x.at 2) y3)).put 3 (ad (x.at 3) y4)).put 4 (ad (x.at 4) y5)).put 5 (ad (x.at 5) y6)).put 6 (ad (x.at 6) y7)).put 7 (ad (x.at 7) y8)).at 2) _
  rw [Arr.at_put_ne _ (by omega),Arr.at_put_ne _ (by omega),Arr.at_put_ne _ (by omega),Arr.at_put_ne _ (by omega),Arr.at_put_ne _ (by omega),Arr.at_put _ (by omega)];exact ZdS k3 h3
 ·show Wd ((((((((((zA 8).put 0 (ad (x.at 0) y1)).put 1 (ad (x.at 1) y2)).put 2 (ad (x.at 2) y3)).put 3 (ad (x.at 3) y4)).put 4 (ad (x.at 4) y5)).put 5 (ad (x.at 5) y6)).put 6 (ad (x.at 6) y7)).put 7 (ad (x.at 7) y8)).at 3) _
  rw [Arr.at_put_ne _ (by omega),Arr.at_put_ne _ (by omega),Arr.at_put_ne _ (by omega),Arr.at_put_ne _ (by omega),Arr.at_put _ (by omega)];exact ZdS k4 h4
 ·show Wd ((((((((((zA 8).put 0 (ad (x.at 0) y1)).put 1 (ad (x.at 1) y2)).put 2 (ad (x.at 2) y3)).put 3 (ad (x.at 3) y4)).put 4 (ad (x.at 4) y5)).put 5 (ad (x.at 5) y6)).put 6 (ad (x.at 6) y7)).put 7 (ad (x.at 7) y8)).at 4) _
  rw [Arr.at_put_ne _ (by omega),Arr.at_put_ne _ (by omega),Arr.at_put_ne _ (by omega),Arr.at_put _ (by omega)];exact ZdS k5 h5
 ·show Wd ((((((((((zA 8).put 0 (ad (x.at 0) y1)).put 1 (ad (x.at 1) y2)).put 2 (ad (x.at 2) y3)).put 3 (ad (x.at 3) y4)).put 4 (ad (x.at 4) y5)).put 5 (ad (x.at 5) y6)).put 6 (ad (x.at 6) y7)).put 7 (ad (x.at 7) y8)).at 5) _
  rw [Arr.at_put_ne _ (by omega),Arr.at_put_ne _ (by omega),Arr.at_put _ (by omega)];exact ZdS k6 h6
 ·show Wd ((((((((((zA 8).put 0 (ad (x.at 0) y1)).put 1 (ad (x.at 1) y2)).put 2 (ad (x.at 2) y3)).put 3 (ad (x.at 3) y4)).put 4 (ad (x.at 4) y5)).put 5 (ad (x.at 5) y6)).put 6 (ad (x.at 6) y7)).put 7 (ad (x.at 7) y8)).at 6) _
  rw [Arr.at_put_ne _ (by omega),Arr.at_put _ (by omega)];exact ZdS k7 h7
 ·show Wd ((((((((((zA 8).put 0 (ad (x.at 0) y1)).put 1 (ad (x.at 1) y2)).put 2 (ad (x.at 2) y3)).put 3 (ad (x.at 3) y4)).put 4 (ad (x.at 4) y5)).put 5 (ad (x.at 5) y6)).put 6 (ad (x.at 6) y7)).put 7 (ad (x.at 7) y8)).at 7) _
  rw [Arr.at_put _ (by omega)];exact ZdS k8 h8
theorem Zpv (y:List Nat) (n p a b c d e f g h:Nat):Zkd y (n+1) p a b c d e f g h=(ZD (Yb y (Nat.add p 0)) fun w0=>ZD (Yb y (Nat.add p 4)) fun w1=>ZD (Yb y (Nat.add p 8)) fun w2=>ZD (Yb y (Nat.add p 12)) fun w3=>ZD (Yb y (Nat.add p 16)) fun w4=>ZD (Yb y (Nat.add p 20)) fun w5=>ZD (Yb y (Nat.add p 24)) fun w6=>ZD (Yb y (Nat.add p 28)) fun w7=>ZD (Yb y (Nat.add p 32)) fun w8=>ZD (Yb y (Nat.add p 36)) fun w9=>ZD (Yb y (Nat.add p 40)) fun w10=>ZD (Yb y (Nat.add p 44)) fun w11=>ZD (Yb y (Nat.add p 48)) fun w12=>ZD (Yb y (Nat.add p 52)) fun w13=>ZD (Yb y (Nat.add p 56)) fun w14=>ZD (Yb y (Nat.add p 60)) fun w15=>goN (fun a' b' c' d' e' f' g' h'=>ZD (aN a a') fun a''=>ZD (aN b b') fun b''=>ZD (aN c c') fun c''=>ZD (aN d d') fun d''=>ZD (aN e e') fun e''=>ZD (aN f f') fun f''=>ZD (aN g g') fun g''=>ZD (aN h h') fun h''=>ZD (Nat.add p 64) fun p=>Zkd y n p a'' b'' c'' d'' e'' f'' g'' h'') kN w0 w1 w2 w3 w4 w5 w6 w7 w8 w9 w10 w11 w12 w13 w14 w15 a b c d e f g h):=rfl
theorem ZrR {y:List Int} {yN:List Nat} {N:Nat} (hl:y.length=64 * N) (hy:y=yN.map Int.ofNat):∀ (n i:Nat),i+n=N→∀ (a b c d e f g h:Nat),A8 (hsh y i) a b c d e f g h→∃ a' b' c' d' e' f' g' h',Zkd yN n (64 * i) a b c d e f g h=[a',b',c',d',e',f',g',h']∧A8 (hsh y N) a' b' c' d' e' f' g' h' := by
 intro n;induction n with
 | zero =>
  intro i hi a b c d e f g h hs;obtain rfl:i=N:=by omega
  exact ⟨_,_,_,_,_,_,_,_,rfl,hs⟩
 | succ n ih =>
  intro i hi a b c d e f g h hs
  have hb:∀ j,j<64→(blk y i).at j=((yN.getD (64 * i+j) 0:Nat):Int):=fun j hj=>by
   have hll:64≤(y.drop (64 * i)).length:=by rw [List.length_drop]; omega
   have hN:yN.length=y.length:=by rw [hy]; simp
   unfold blk ZkJ;rw [dif_pos hll];unfold Arr.at;simp only [List.getD_eq_getElem?_getD];rw [List.getElem?_take_of_lt hj,List.getElem?_drop,hy,List.getElem?_map,List.getElem?_eq_getElem (by omega)];rfl
  obtain ⟨a',b',c',d',e',f',g',h',g1,g2⟩:=ZuI (fun a' b' c' d' e' f' g' h'=>ZD (aN a a') fun a''=>ZD (aN b b') fun b''=>ZD (aN c c') fun c''=>ZD (aN d d') fun d''=>ZD (aN e e') fun e''=>ZD (aN f f') fun f''=>ZD (aN g g') fun g''=>ZD (aN h h') fun h''=>ZD (Nat.add (64 * i) 64) fun p=>Zkd yN n p a'' b'' c'' d'' e'' f'' g'' h'') (blk y i) (st0 (hsh y i)) kN 0 rfl (fun j hj=>by rw [Nat.zero_add]; exact kN_W hj) (Yb yN (64 * i+0)) (Yb yN (64 * i+4)) (Yb yN (64 * i+8)) (Yb yN (64 * i+12)) (Yb yN (64 * i+16)) (Yb yN (64 * i+20)) (Yb yN (64 * i+24)) (Yb yN (64 * i+28)) (Yb yN (64 * i+32)) (Yb yN (64 * i+36)) (Yb yN (64 * i+40)) (Yb yN (64 * i+44)) (Yb yN (64 * i+48)) (Yb yN (64 * i+52)) (Yb yN (64 * i+56)) (Yb yN (64 * i+60)) a b c d e f g h (fun j hj _=>by
   rw [Nat.zero_add,ZrQ _ hj];have:=ZuJ (p:=64 * i) hb hj
   have e:[Yb yN (64 * i+0),Yb yN (64 * i+4),Yb yN (64 * i+8),Yb yN (64 * i+12),Yb yN (64 * i+16),Yb yN (64 * i+20),Yb yN (64 * i+24),Yb yN (64 * i+28),Yb yN (64 * i+32),Yb yN (64 * i+36),Yb yN (64 * i+40),Yb yN (64 * i+44),Yb yN (64 * i+48),Yb yN (64 * i+52),Yb yN (64 * i+56),Yb yN (64 * i+60)].getD j 0=Yb yN (64 * i+4 * j):=by
    rcases (show j=0∨j=1∨j=2∨j=3∨j=4∨j=5∨j=6∨j=7∨j=8∨j=9∨j=10∨j=11∨j=12∨j=13∨j=14∨j=15 by omega) with rfl | rfl | rfl | rfl | rfl | rfl | rfl | rfl | rfl | rfl | rfl | rfl | rfl | rfl | rfl | rfl <;> rfl
   rw [e]
   exact this) hs
  have hc:=ZuK hs g2;obtain ⟨a2,b2,c2,d2,e2,f2,g2',h2,r1,r2⟩:=ih (i+1) (by omega) _ _ _ _ _ _ _ _ hc;refine ⟨a2,b2,c2,d2,e2,f2,g2',h2,?_,r2⟩;rw [← r1,Zpv];refine (Yi _ _).trans ?_;refine (Yi _ _).trans ?_;refine (Yi _ _).trans ?_;refine (Yi _ _).trans ?_;refine (Yi _ _).trans ?_;refine (Yi _ _).trans ?_;refine (Yi _ _).trans ?_;refine (Yi _ _).trans ?_;refine (Yi _ _).trans ?_;refine (Yi _ _).trans ?_;refine (Yi _ _).trans ?_;refine (Yi _ _).trans ?_;refine (Yi _ _).trans ?_;refine (Yi _ _).trans ?_;refine (Yi _ _).trans ?_;refine (Yi _ _).trans ?_;refine Eq.trans g1 ?_;refine (Yi _ _).trans ?_;refine (Yi _ _).trans ?_;refine (Yi _ _).trans ?_;refine (Yi _ _).trans ?_;refine (Yi _ _).trans ?_;refine (Yi _ _).trans ?_;refine (Yi _ _).trans ?_;refine (Yi _ _).trans ?_;exact Yi _ _
noncomputable def Zpw (s:List Nat):Arr 32:=⟨(List.range 32).map fun k=>Int.ofNat (Nat.mod (Nat.shiftRight (ZhM s (Nat.div k 4)) (Nat.sub 24 (Nat.mul (Nat.mod k 4) 8))) 256),by simp⟩
theorem Ztb (x:Arr 8) {k:Nat}:∀ {n:Nat},k<n→n≤32→(ZgZ x n).at k=byt x k:=by
 intro n;induction n with
 | zero=>intro h _; omega
 | succ n ih =>
  intro h hn;show ((ZgZ x n).put n _).at k=_
  by_cases e:k=n
  ·subst e
   exact Arr.at_put _ (by omega) _
  ·rw [Arr.at_put_ne _ (by omega)]
   exact ih (by omega) (by omega)
theorem Ztc {x:Arr 8} {a b c d e f g h:Nat} (hx:A8 x a b c d e f g h):Zpw [a,b,c,d,e,f,g,h]=ZgZ x 32:=by
 apply Arr.ext
 intro k hk;rw [Ztb x hk (by omega)]
 have hw:Wd (x.at (k / 4)) (ZhM [a,b,c,d,e,f,g,h] (k / 4)):=by
  obtain ⟨h1,h2,h3,h4,h5,h6,h7,h8⟩:=hx;rcases (show k / 4=0∨k / 4=1∨k / 4=2∨k / 4=3∨k / 4=4∨k / 4=5∨k / 4=6∨k / 4=7 by omega) with h | h | h | h | h | h | h | h <;> rw [h]
  ·exact h1
  ·exact h2
  ·exact h3
  ·exact h4
  ·exact h5
  ·exact h6
  ·exact h7
  ·exact h8
 obtain ⟨ew,_⟩:=hw
 have e2:(Zpw [a,b,c,d,e,f,g,h]).at k=Int.ofNat (Nat.mod (Nat.shiftRight (ZhM [a,b,c,d,e,f,g,h] (Nat.div k 4)) (Nat.sub 24 (Nat.mul (Nat.mod k 4) 8))) 256):=by
  unfold Arr.at Zpw;simp only [List.getD_eq_getElem?_getD,List.getElem?_map];rw [List.getElem?_range hk];rfl
 rw [e2];unfold byt;rw [ew,show (2:Int) ^ (24-k % 4 * 8)=((2 ^ (24-k % 4 * 8):Nat):Int) by rw [Int.natCast_pow]; rfl,Zsm]
 have u8:∀ m:Nat,IntKind.u8.wrap (m:Int)=((m % 256:Nat):Int):=fun m=>by
  simp [IntKind.wrap,IntKind.signed,IntKind.bits]
 rw [u8];rfl
noncomputable def toN (l:List Int):List Nat:=l.map Int.toNat
noncomputable def Zg0 (l:List Int):Bool:=l.all fun x=>Int.rec (motive:=fun _=>Bool) (fun n=>Nat.ble n 255) (fun _=>false) x
theorem ZrS {l:List Int} (h:Zg0 l=true):l=(toN l).map Int.ofNat:=by
 induction l with
 | nil=>rfl
 | cons x l ih =>
  unfold Zg0 at h;rw [List.all_cons,Bool.and_eq_true] at h;have:=ih h.2;cases x with
  | ofNat n =>
   show Int.ofNat n :: l=Int.ofNat n :: (toN l).map Int.ofNat
   rw [← this]
  | negSucc n=>cases h.1
theorem ZrT {l m:List Int} (h:Zg0 l=true) (k:Zg0 m=true):Zg0 (l++m)=true:=by
 unfold Zg0 at *;rw [List.all_append,h,k];rfl
theorem Ztd {l:List Int} (h:∀ x∈l,0≤x∧x≤255):Zg0 l=true:=by
 unfold Zg0;refine List.all_eq_true.2 fun x hx=>?_
 obtain ⟨h0,h1⟩:=h x hx;cases x with
 | ofNat n =>
  have:(n:Int)≤255:=h1;show Nat.ble n 255=true
  rw [Nat.ble_eq];omega
 | negSucc n=>exact absurd h0 (by simp)
theorem ZrU (n:Nat):Zg0 (Zan n)=true:=by
 refine Ztd fun x hx=>?_
 unfold Zan at hx;rcases List.mem_append.1 hx with hx | hx
 ·rcases List.mem_cons.1 hx with rfl | hx
  ·omega
  ·obtain ⟨_,rfl⟩:=List.mem_replicate.1 hx
   omega
 ·obtain ⟨j,_,rfl⟩:=List.mem_map.1 hx
  unfold ZlI;have:∀ x:Int,IntKind.u8.wrap x=x % 2 ^ 8:=fun x=>by simp [IntKind.wrap,IntKind.signed,IntKind.bits]
  rw [this,show (2:Int) ^ 8=256 from rfl];omega
noncomputable def ZrV (l:List Int):Arr 32:=YO.force (toN (l++Zan l.length)) fun y=>YO.force (Zkd y (Nat.div (Nat.add l.length (Zan l.length).length) 64) 0 1779033703 3144134277 1013904242 2773480762 1359893119 2600822924 528734635 1541459225) Zpw
theorem Zte {l:List Int} (h:Zg0 l=true):ZrV l=Zd7 l:=by
 unfold ZrV Zd7;rw [YO.eq,YO.eq];have hy:=ZrS (ZrT h (ZrU l.length))
 have hl:(l++Zan l.length).length=64 * ((l.length+(Zan l.length).length) / 64):=by
  have:=ZjJ l.length;rw [List.length_append];omega
 obtain ⟨a',b',c',d',e',f',g',h',g1,g2⟩:=ZrR hl hy ((l.length+(Zan l.length).length) / 64) 0 (by omega) 1779033703 3144134277 1013904242 2773480762 1359893119 2600822924 528734635 1541459225 ⟨⟨rfl,by omega⟩,⟨rfl,by omega⟩,⟨rfl,by omega⟩,⟨rfl,by omega⟩,⟨rfl,by omega⟩,⟨rfl,by omega⟩,⟨rfl,by omega⟩,⟨rfl,by omega⟩⟩;have g3:Zkd (toN (l++Zan l.length)) (Nat.div (Nat.add l.length (Zan l.length).length) 64) 0 1779033703 3144134277 1013904242 2773480762 1359893119 2600822924 528734635 1541459225=_:=g1;rw [g3,Ztc g2]
noncomputable def ZkP (l:List Int):Option (Arr 32):=Bool.rec (motive:=fun _=>Option (Arr 32)) none (some (ZrV l)) (and (Zg0 l) (Nat.ble l.length 100000))
theorem ZjK {l:List Int} {r:Arr 32} (h:ZkP l=some r):r=Zd7 l∧l.length≤100000:=by
 unfold ZkP at h;cases hc:(and (Zg0 l) (Nat.ble l.length 100000)) with
 | false=>rw [hc] at h; cases h
 | true =>
  rw [hc] at h;have h:=Option.some.inj h;have h2:=Bool.and_eq_true_iff.1 hc;exact ⟨by rw [← h,Zte h2.1],Nat.le_of_ble_eq_true h2.2⟩
noncomputable def ZhN (l:List Int):Option (Arr 32):=(ZkP l).bindF fun a=>ZkP a.l
theorem ZrW (l:List Int):Le (ZkP l) (ZaE l):=fun r h=>by
 obtain ⟨rfl,hl⟩:=ZjK h;exact ZlJ (by omega)
theorem ZjL {l:List Int} {r:Arr 32} (h:ZhN l=some r):r=Zd7 (Zd7 l).l∧l.length≤100000:=by
 unfold ZhN at h;rw [Znp] at h;obtain ⟨a,ha,h⟩:=Option.bind_eq_some_iff.1 h;obtain ⟨rfl,hl⟩:=ZjK ha;exact ⟨(ZjK h).1,hl⟩
theorem ZrX (l:List Int):Le (ZhN l) (ZaJ l):=fun r h=>by
 obtain ⟨rfl,hl⟩:=ZjL h;exact Zox (by omega)
end
section
open Go.Sort
theorem XA (x y:Int):ZL x y=some (ltInt x y):=by simp [ZL,Zab,ltInt]
theorem gA {d:Array Int} {i:Nat} (h:i<d.size):d.toList[i]? = some d[i]! := by
 rw [getElem!_pos d i h];simp [h]
theorem gB {β:Type} {d:Array Int} {i:Nat} {f:Int→Option β} (h:i<d.size):(d.toList[i]?).bind f=f d[i]! := by rw [gA h]; rfl
theorem iB {β:Type} {d:Array Int} {i:Nat} {f:Nat→Option β} (h:i<d.size):(inA d.toList.length (i:Int)).bind f=f i:=XK (by simpa using h)
theorem iB1 {β:Type} {d:Array Int} {i j:Nat} {x:Int} {f:Nat→Option β} (h:i<d.size):(inA (d.toList.set j x).length (i:Int)).bind f=f i:=XK (by simpa using h)
theorem Zfo (d:Array Int) (i j:Nat):(d.toList.set i d[j]!).set j d[i]! = (swp d i j).toList:=by simp [swp]
theorem sB {β:Type} (x:Bool) (f:Bool→Option β):(some x).bind f=f x:=rfl
theorem wI (n:Nat) (h:n<9223372036854775808):IntKind.i64.wrap (n:Int)=(n:Int):=wi _ (by omega)
theorem wS {i:Nat} (h:i<9223372036854775807):IntKind.i64.wrap ((i:Int)+1)=((i+1:Nat):Int):=by rw [wi _ (by omega)]; omega
theorem wP {i:Nat} (h:i<9223372036854775807):IntKind.i64.wrap (((i+1:Nat):Int)-1)=(i:Int):=by rw [wi _ (by omega)]; omega
theorem Ze8 (lt:Int→Int→Bool) (a:Nat):∀ (j:Nat) (d:Array Int),(insInner lt a j d).size=d.size
 | 0,d=>by rw [insInner]
 | j+1,d=>by
  rw [insInner];split
  ·rw [Ze8 lt a j,size_swp]
  ·rfl
theorem Zmo (a:Nat) (i:Int):∀ (j:Nat) (d:Array Int),j<d.size→d.size<4611686018427387904→Zf (Yc (a:Int) i) ((j:Int),d.toList)=Yo i (insInner ltInt a j d).toList
 | 0,d,hj,hs=>by
  rw [insInner];refine Yv ?_;have h:¬ ((a:Int)<((0:Nat):Int)):=by omega
  simp only [Yc,if_neg h,sB,h,false_and,if_false]
 | j+1,d,hj,hs=>by
  have hj':j<d.size:=by omega
  rw [insInner];by_cases h:a<j+1
  ·have hc:(a:Int)<((j+1:Nat):Int):=by omega
   by_cases hl:ltInt d[j+1]! d[j]! = true
   ·rw [ZM (s' := ((j:Int),(swp d (j+1) j).toList)),Zmo a i j _ (by rw [size_swp]; exact hj') (by rw [size_swp]; exact hs),if_pos (by simp [h,hl])]
    simp only [Yc,if_pos hc,hc,true_and,wP (show j<9223372036854775807 by omega),iB hj,iB hj',gB hj,gB hj',XA,sB,hl,if_true,iB1 hj',Zfo]
   ·rw [if_neg (by simp [hl])]
    refine Yv ?_;simp only [Yc,if_pos hc,hc,true_and,wP (show j<9223372036854775807 by omega),iB hj,iB hj',gB hj,gB hj',XA,sB,(by simpa using hl:ltInt d[j+1]! d[j]! = false),if_true,if_false,Bool.false_eq_true]
  ·rw [if_neg (by simp [h])]
   refine Yv ?_;have hc:¬ (a:Int)<((j+1:Nat):Int):=by omega
   simp only [Yc,if_neg hc,sB,hc,false_and,if_false]
theorem ZqA (a b:Nat) (l0:List Int):∀ (n i:Nat) (d:Array Int),b-i=n→b≤d.size→d.size<4611686018427387904→d.size=l0.length→Zf (YH (b:Int) (a:Int) l0) ((i:Int),d.toList)=some (insOuter ltInt a b i d).toList:=by
 intro n;induction n with
 | zero =>
  intro i d h hb hs h0;rw [insOuter,if_neg (by omega)];refine Yt ?_;simp only [YH,if_neg (show ¬ (i:Int)<(b:Int) by omega)];rw [Zg (by simpa using h0)]
 | succ n ih =>
  intro i d h hb hs h0;rw [insOuter,if_pos (by omega),← ih (i+1) _ (by omega) (by rw [Ze8]; exact hb) (by rw [Ze8]; exact hs) (by rw [Ze8]; exact h0)];refine ZM ?_;simp only [YH,if_pos (show (i:Int)<(b:Int) by omega)];rw [Zmo a _ i d (by omega) hs,Yo,wS (by omega)]
theorem ZuL (d:Array Int) (a b:Nat) (hb:b≤d.size) (ha:a≤b) (hs:d.size<4611686018427387904):Z2 d.toList (a:Int) (b:Int)=some (insertionSort ltInt d a b).toList:=by
 rw [Z2,wS (by omega),ZqA a b d.toList _ (a+1) d rfl hb hs (by simp)];rfl
theorem wA {i j:Nat} (h:i+j<9223372036854775808):IntKind.i64.wrap ((i:Int)+(j:Int))=((i+j:Nat):Int):=by rw [wi _ (by omega)]; omega
theorem wM {i:Nat} (h:2 * i<9223372036854775808):IntKind.i64.wrap (2 * (i:Int))=((2 * i:Nat):Int):=by rw [wi _ (by omega)]; omega
theorem wD {i j:Nat} (h:i≤j) (hj:j<9223372036854775808):IntKind.i64.wrap ((j:Int)-(i:Int))=((j-i:Nat):Int):=by rw [wi _ (by omega)]; omega
theorem Ztf (d:Array Int) (first root child:Nat) (l0:List Int) (h1:first+root<d.size) (h2:first+child<d.size) (hs:d.size<4611686018427387904) (h0:d.size=l0.length) :
  ZW d.toList (first:Int) (root:Int) l0 (child:Int)=if (!ltInt d[first+root]! d[first+child]!)=true then some (.inr d.toList) else some (.inl ((child:Int),(swp d (first+root) (first+child)).toList)):=by
 have hc:d.toList.length=l0.length:=by simpa using h0
 rw [ZW,wA (by omega),wA (by omega)];simp only [iB h1,iB h2,gB h1,gB h2,XA,sB,iB1 h2,Zfo];cases ltInt d[first+root]! d[first+child]! <;> simp [Zoo h0]
theorem ZjM (lt:Int→Int→Bool) (hi first:Nat):∀ (n root:Nat) (d:Array Int),hi-root=n→(siftDown lt hi first root d).size=d.size:=by
 intro n;induction n using Nat.strongRecOn with
 | _ n ih =>
  intro root d h;rw [siftDown];split
  ·rfl
  ·split
   ·split
    ·rfl
    ·split
     ·rw [ih _ (by omega) _ _ rfl,size_swp]
     ·rfl
   ·split
    ·rfl
    ·rw [ih _ (by omega) _ _ rfl,size_swp]
theorem ZqB (hi first:Nat) (l0:List Int):∀ (n root:Nat) (d:Array Int),hi-root=n→first+hi≤d.size→d.size<4611686018427387904→root≤d.size→d.size=l0.length→Zf (ZX (hi:Int) l0 (first:Int)) ((root:Int),d.toList)=some (siftDown ltInt hi first root d).toList:=by
 intro n;induction n using Nat.strongRecOn with
 | _ n ih =>
  intro root d h hf hs hr h0;have hc:d.toList.length=l0.length:=by simpa using h0
  rw [siftDown];by_cases g:2 * root+1 ≥ hi
  ·rw [dif_pos g]
   refine Yt ?_;simp only [ZX,wM (show 2 * root<9223372036854775808 by omega),wS (show 2 * root<9223372036854775807 by omega),if_pos (show (hi:Int)≤((2 * root+1:Nat):Int) by omega)];rw [Zg hc]
  ·rw [dif_neg g]
   have hr1:first+root<d.size:=by omega
   have hc1:first+(2 * root+1)<d.size:=by omega
   have g':¬ (hi:Int)≤((2 * root+1:Nat):Int):=by omega
   have hgo:∀ child,root<child→first+child<d.size→child<hi→ZX (hi:Int) l0 (first:Int) ((root:Int),d.toList)=ZW d.toList (first:Int) (root:Int) l0 (child:Int)→Zf (ZX (hi:Int) l0 (first:Int)) ((root:Int),d.toList)=some (if (!ltInt d[first+root]! d[first+child]!)=true then d else siftDown ltInt hi first child (swp d (first+root) (first+child))).toList:=by
    intro child hch hcd hchi hst;rw [Ztf d first root child l0 hr1 hcd hs h0] at hst;by_cases hl:(!ltInt d[first+root]! d[first+child]!)=true
    ·rw [if_pos hl] at hst ⊢
     exact Yt hst
    ·rw [if_neg hl] at hst ⊢
     rw [ZM hst];exact ih (hi-child) (by omega) child _ rfl (by rw [size_swp]; exact hf) (by rw [size_swp]; exact hs) (by rw [size_swp]; omega) (by rw [size_swp]; exact h0)
   by_cases g2:2 * root+1+1<hi
   ·have hc2:first+(2 * root+1)+1<d.size:=by omega
    have g2':((2 * root+1+1:Nat):Int)<(hi:Int):=by omega
    by_cases hl:ltInt d[first+(2 * root+1)]! d[first+(2 * root+1)+1]! = true
    ·rw [if_pos (by simp [g2,hl]),hgo (2 * root+1+1) (by omega) (by omega) g2]
     ·simp only [dif_pos g2]
     ·simp only [ZX,wM (show 2 * root<9223372036854775808 by omega),wS (show 2 * root<9223372036854775807 by omega),wS (show 2 * root+1<9223372036854775807 by omega),if_neg g',g2',if_true,wA (show first+(2 * root+1)<9223372036854775808 by omega),wS (show first+(2 * root+1)<9223372036854775807 by omega),iB hc1,iB hc2,gB hc1,gB hc2,XA,sB,hl,true_and]
    ·rw [if_neg (by simp [hl]),hgo (2 * root+1) (by omega) (by omega) (by omega)]
     simp only [ZX,wM (show 2 * root<9223372036854775808 by omega),wS (show 2 * root<9223372036854775807 by omega),wS (show 2 * root+1<9223372036854775807 by omega),if_neg g',g2',if_true,wA (show first+(2 * root+1)<9223372036854775808 by omega),wS (show first+(2 * root+1)<9223372036854775807 by omega),iB hc1,iB hc2,gB hc1,gB hc2,XA,sB,(by simpa using hl:ltInt d[first+(2 * root+1)]! d[first+(2 * root+1)+1]! = false),true_and,Bool.false_eq_true,if_false]
   ·rw [if_neg (by simp [g2]),hgo (2 * root+1) (by omega) (by omega) (by omega)]
    have g2':¬ ((2 * root+1+1:Nat):Int)<(hi:Int):=by omega
    simp only [ZX,wM (show 2 * root<9223372036854775808 by omega),wS (show 2 * root<9223372036854775807 by omega),wS (show 2 * root+1<9223372036854775807 by omega),if_neg g',g2',sB,false_and,if_false]
theorem Zoz (d:Array Int) (root hi first:Nat) (hf:first+hi≤d.size) (hs:d.size<4611686018427387904) (hr:root≤d.size):YS d.toList (root:Int) (hi:Int) (first:Int)=some (siftDown ltInt hi first root d).toList:=ZqB hi first d.toList _ root d rfl hf hs hr (by simp)
theorem Znz (first:Nat) (l0:List Int):∀ (k:Nat) (d:Array Int),first+k≤d.size→d.size<4611686018427387904→d.size=l0.length→Zf (Y9 (first:Int) l0) ((k:Int)-1,d.toList)=some (heapPop ltInt first k d).toList:=by
 intro k;induction k with
 | zero =>
  intro d hf hs h0;have hc:d.toList.length=l0.length:=by simpa using h0
  rw [heapPop];refine Yt ?_;simp only [Y9,if_neg (show ¬ (0:Int)≤((0:Nat):Int)-1 by omega)];rw [Zg hc]
 | succ k ih =>
  intro d hf hs h0;have h1:first<d.size:=by omega
  have h2:first+k<d.size:=by omega
  have e:((k+1:Nat):Int)-1=(k:Int):=by omega
  have hsz:(siftDown ltInt k first 0 (swp d first (first+k))).size=d.size:=by rw [ZjM _ _ _ _ _ _ rfl,size_swp]
  rw [heapPop,← ih _ (by rw [hsz]; omega) (by rw [hsz]; exact hs) (by rw [hsz]; exact h0)];refine ZM ?_;simp only [Y9,e,if_pos (show (0:Int)≤(k:Int) by omega),wA (show first+k<9223372036854775808 by omega),iB h1,iB h2,gB h1,gB h2,iB1 h2,Zfo];have:=Zoz (swp d first (first+k)) 0 k first (by rw [size_swp]; omega) (by rw [size_swp]; exact hs) (Nat.zero_le _);rw [show (((0:Nat):Int))=0 from rfl] at this;rw [this,Zb,Zg (by simp [ZjM _ _ _ _ _ _ rfl]),wi _ (by omega)]
theorem ZlK (a b:Nat) (l0:List Int) (hab:a≤b):∀ (k:Nat) (d:Array Int),k≤d.size+1→b≤d.size→d.size<4611686018427387904→d.size=l0.length→Zf (Xa (b:Int) (a:Int) l0) ((k:Int)-1,d.toList)=some (heapPop ltInt a (b-a) (heapBuild ltInt (b-a) a k d)).toList:=by
 intro k;induction k with
 | zero =>
  intro d hk hb hs h0;rw [heapBuild];refine Yv ?_;simp only [Xa,if_neg (show ¬ (0:Int)≤((0:Nat):Int)-1 by omega),X4,wD hab (show b<9223372036854775808 by omega)];rw [wi _ (by omega),Znz a l0 (b-a) d (by omega) hs h0]
 | succ k ih =>
  intro d hk hb hs h0;have e:((k+1:Nat):Int)-1=(k:Int):=by omega
  have hsz:(siftDown ltInt (b-a) a k d).size=d.size:=ZjM _ _ _ _ _ _ rfl;rw [heapBuild,← ih _ (by rw [hsz]; omega) (by rw [hsz]; exact hb) (by rw [hsz]; exact hs) (by rw [hsz]; exact h0)];refine ZM ?_;simp only [Xa,e,if_pos (show (0:Int)≤(k:Int) by omega),wD hab (show b<9223372036854775808 by omega)];rw [Zoz d k (b-a) a (by omega) hs (by omega),Zb,Zg (by simp [hsz]),wi _ (by omega)]
theorem Ztg (d:Array Int) (a b:Nat) (hab:a≤b) (hb:b≤d.size) (hs:d.size<4611686018427387904):YT d.toList (a:Int) (b:Int)=some (heapSort ltInt d a b).toList:=by
 have e:IntKind.i64.wrap ((IntKind.i64.wrap (((b-a:Nat):Int)-1)).tdiv 2)=(((b-a-1) / 2+1:Nat):Int)-1:=by
  rw [wi (((b-a:Nat):Int)-1) (by omega)];rcases Nat.eq_zero_or_pos (b-a) with h | h
  ·rw [h]; decide
  ·have e1:((b-a:Nat):Int)-1=((b-a-1:Nat):Int):=by omega
   have e2:(((b-a-1:Nat):Int)).tdiv 2=(((b-a-1) / 2:Nat):Int):=by
    rw [Int.tdiv_eq_ediv_of_nonneg (by omega)]; omega
   rw [e1,e2,wi _ (by omega)];omega
 rw [YT,wD hab (by omega),e,ZlK a b d.toList hab _ d (by omega) hb hs (by simp)];rfl
theorem ZrY (l0:List Int):∀ (n i j:Nat) (d:Array Int),j-i=n→j<d.size∨j≤i→i<4611686018427387904→d.size<4611686018427387904→d.size=l0.length→Zf (YK l0) ((i:Int),(j:Int),d.toList)=some (reverseLoop i j d).toList:=by
 intro n;induction n using Nat.strongRecOn with
 | _ n ih =>
  intro i j d h hj hi hs h0;have hc:d.toList.length=l0.length:=by simpa using h0
  rw [reverseLoop];by_cases g:i<j
  ·have hi':i<d.size:=by omega
   have hj':j<d.size:=by omega
   rw [if_pos g,← ih (j-1-(i+1)) (by omega) (i+1) (j-1) _ rfl (by rw [size_swp]; omega) (by omega) (by rw [size_swp]; exact hs) (by rw [size_swp]; exact h0)];refine ZM ?_;simp only [YK,if_pos (show (i:Int)<(j:Int) by omega),iB hi',iB hj',gB hi',gB hj',iB1 hj',Zfo,wS (show i<9223372036854775807 by omega)];rw [wi _ (by omega),show (j:Int)-1=((j-1:Nat):Int) by omega]
  ·rw [if_neg g]
   refine Yt ?_;simp only [YK,if_neg (show ¬ (i:Int)<(j:Int) by omega)];rw [Zg hc]
theorem ZuM (d:Array Int) (a b:Nat) (hab:a<b) (hb:b≤d.size) (hs:d.size<4611686018427387904):Yx d.toList (a:Int) (b:Int)=some (reverseRange d a b).toList:=by
 rw [Yx,wi _ (by omega),show (b:Int)-1=((b-1:Nat):Int) by omega,ZrY d.toList _ a (b-1) d rfl (by omega) (by omega) hs (by simp)];rfl
theorem Zh8 {ρ:Type} (step:Int→Option (Int ⊕ ρ)) (k:Int→Option ρ) (p:Int→Bool) (d:Array Int) (j:Nat) (h1:∀ i:Nat,i≤j→step (i:Int)=if p d[i]! = true then some (.inl ((i+1:Nat):Int)) else (k (i:Int)).map .inr) (h2:∀ i:Nat,¬ i≤j→step (i:Int)=(k (i:Int)).map .inr):∀ (n i:Nat),j+1-i=n→Zf step (i:Int)=k ((scanUp p d j i:Nat):Int):=by
 intro n;induction n with
 | zero =>
  intro i hn;rw [scanUp,if_neg (by simp; omega)];exact Yv (h2 i (by omega))
 | succ n ih =>
  intro i hn;rw [scanUp];by_cases hp:p d[i]! = true
  ·rw [if_pos (by simp [hp]; omega),← ih (i+1) (by omega)]
   exact ZM (by rw [h1 i (by omega),if_pos hp])
  ·rw [if_neg (by simp [hp])]
   exact Yv (by rw [h1 i (by omega),if_neg hp])
theorem Ze9 {ρ:Type} (step:Int→Option (Int ⊕ ρ)) (k:Int→Option ρ) (p:Int→Bool) (d:Array Int) (i:Nat) (hi:1≤i) (h1:∀ j:Nat,i≤j+1→j+1<d.size→step ((j+1:Nat):Int)=if p d[j+1]! = true then some (.inl (j:Int)) else (k ((j+1:Nat):Int)).map .inr) (h2:∀ j:Nat,¬ i≤j→step (j:Int)=(k (j:Int)).map .inr):∀ (j:Nat),j<d.size→Zf step (j:Int)=k ((scanDown p d i j:Nat):Int)
 | 0,_=>by
  rw [scanDown];exact Yv (h2 0 (by omega))
 | j+1,hj=>by
  rw [scanDown];by_cases hij:i≤j+1
  ·by_cases hp:p d[j+1]! = true
   ·rw [if_pos (by simp [hp]; omega),← Ze9 step k p d i hi h1 h2 j (by omega)]
    exact ZM (by rw [h1 j hij hj,if_pos hp])
   ·rw [if_neg (by simp [hp])]
    exact Yv (by rw [h1 j hij hj,if_neg hp])
  ·rw [if_neg (by simp [hij])]
   exact Yv (h2 (j+1) hij)
theorem Zwh (d:Array Int) (a j:Nat) (l0:List Int) (ha:a<d.size) (hj:j<d.size) (hs:d.size<4611686018427387904) (i:Nat):Zf (YB (j:Int) d.toList (a:Int) l0) (i:Int)=Ya ((scanUp (fun x=>!ltInt d[a]! x) d j i:Nat):Int) d.toList (a:Int) l0 (j:Int):=by
 refine Zh8 _ (fun q=>Ya q d.toList (a:Int) l0 (j:Int)) _ d j (fun i hi=>?_) (fun i hi=>?_) _ i rfl
 ·have hc:(i:Int)≤(j:Int):=by omega
  have hi':i<d.size:=by omega
  simp only [YB,hc,if_true,iB ha,iB hi',gB ha,gB hi',XA,sB,true_and,wS (show i<9223372036854775807 by omega)]
 ·have hc:¬ (i:Int)≤(j:Int):=by omega
  simp only [YB,hc,if_false,sB,false_and]
theorem Zth (d:Array Int) (a i:Nat) (l0:List Int) (ha:a<d.size) (hi:1≤i) (hs:d.size<4611686018427387904) (j:Nat) (hj:j<d.size):Zf (YA (i:Int) d.toList (a:Int) l0) (j:Int)=ZF ((scanDown (fun x=>ltInt d[a]! x) d i j:Nat):Int) (i:Int) d.toList l0:=by
 refine Ze9 _ (fun q=>ZF q (i:Int) d.toList l0) _ d i hi (fun j hij hj=>?_) (fun j hj=>?_) j hj
 ·have hc:(i:Int)≤((j+1:Nat):Int):=by omega
  simp only [YA,hc,if_true,iB ha,iB hj,gB ha,gB hj,XA,sB,true_and,wP (show j<9223372036854775807 by omega)]
 ·have hc:¬ (i:Int)≤(j:Int):=by omega
  simp only [YA,hc,if_false,sB,false_and]
theorem Zti (a:Nat) (l0:List Int):∀ (n i j:Nat) (d:Array Int),j+1-i=n→1≤i→a<d.size→j<d.size→d.size<4611686018427387904→i≤j+2→d.size=l0.length→Zf (YC (a:Int) l0) ((i:Int),(j:Int),d.toList)=some (((partEqLoop ltInt a i j d).1:Int),(partEqLoop ltInt a i j d).2.toList):=by
 intro n;induction n using Nat.strongRecOn with
 | _ n ih =>
  intro i j d hn hi ha hj hs hij h0;have hc:d.toList.length=l0.length:=by simpa using h0
  have u1:=scanUp_ge (fun x=>!ltInt d[a]! x) d j i;have v1:=scanDown_le (fun x=>ltInt d[a]! x) d (scanUp (fun x=>!ltInt d[a]! x) d j i) j
  have hst:YC (a:Int) l0 ((i:Int),(j:Int),d.toList)=ZF ((scanDown (fun x=>ltInt d[a]! x) d (scanUp (fun x=>!ltInt d[a]! x) d j i) j:Nat):Int) ((scanUp (fun x=>!ltInt d[a]! x) d j i:Nat):Int) d.toList l0:=by
   rw [YC,Zwh d a j l0 ha hj hs i,Ya,Zth d a _ l0 ha (by omega) hs j hj]
  rw [partEqLoop_eq];generalize scanUp (fun x=>!ltInt d[a]! x) d j i=i2 at u1 v1 hst ⊢;generalize scanDown (fun x=>ltInt d[a]! x) d i2 j=j2 at v1 hst ⊢;by_cases g:i2 > j2
  ·rw [if_pos g]
   refine Yt ?_;rw [hst,ZF,if_pos (by omega),Xy,Zg hc];rfl
  ·rw [if_neg g]
   have hi2:i2<d.size:=by omega
   have hj2:j2<d.size:=by omega
   rw [← ih (j2-1+1-(i2+1)) (by omega) (i2+1) (j2-1) (swp d i2 j2) rfl (by omega) (by rw [size_swp]; exact ha) (by rw [size_swp]; omega) (by rw [size_swp]; exact hs) (by omega) (by rw [size_swp]; exact h0)];refine ZM ?_;rw [hst,ZF,if_neg (by omega)];simp only [iB hi2,iB hj2,gB hi2,gB hj2,iB1 hj2,Zfo,wS (show i2<9223372036854775807 by omega)];rw [wi _ (by omega),show (j2:Int)-1=((j2-1:Nat):Int) by omega]
theorem Zwi (d:Array Int) (a b pivot:Nat) (hap:a≤pivot) (hpb:pivot<b) (hb:b≤d.size) (hs:d.size<4611686018427387904):ZP d.toList (a:Int) (b:Int) (pivot:Int)=some (((partitionEqual ltInt d a b pivot).1:Int),(partitionEqual ltInt d a b pivot).2.toList):=by
 have hp:pivot<d.size:=by omega
 have ha:a<d.size:=by omega
 rw [ZP];simp only [iB hp,iB ha,gB hp,gB ha,iB1 hp,Zfo,wS (show a<9223372036854775807 by omega)];rw [wi _ (by omega),show (b:Int)-1=((b-1:Nat):Int) by omega,Zti a d.toList _ (a+1) (b-1) (swp d a pivot) rfl (by omega) (by rw [size_swp]; exact ha) (by rw [size_swp]; omega) (by rw [size_swp]; exact hs) (by omega) (by simp [size_swp])];rfl
theorem Zwj (d:Array Int) (a j:Nat) (l0:List Int) (ha:a<d.size) (hj:j<d.size) (hs:d.size<4611686018427387904) (i:Nat):Zf (YZ (j:Int) d.toList (a:Int) l0) (i:Int)=Yk ((scanUp (fun x=>ltInt x d[a]!) d j i:Nat):Int) d.toList (a:Int) l0 (j:Int):=by
 refine Zh8 _ (fun q=>Yk q d.toList (a:Int) l0 (j:Int)) _ d j (fun i hi=>?_) (fun i hi=>?_) _ i rfl
 ·have hc:(i:Int)≤(j:Int):=by omega
  have hi':i<d.size:=by omega
  simp only [YZ,hc,if_true,iB ha,iB hi',gB ha,gB hi',XA,sB,true_and,wS (show i<9223372036854775807 by omega)]
 ·have hc:¬ (i:Int)≤(j:Int):=by omega
  simp only [YZ,hc,if_false,sB,false_and]
theorem Ztj (d:Array Int) (a i:Nat) (l0:List Int) (ha:a<d.size) (hi:1≤i) (hs:d.size<4611686018427387904) (j:Nat) (hj:j<d.size):Zf (YY (i:Int) d.toList (a:Int) l0) (j:Int)=ZR ((scanDown (fun x=>!ltInt x d[a]!) d i j:Nat):Int) (i:Int) d.toList (a:Int) l0:=by
 refine Ze9 _ (fun q=>ZR q (i:Int) d.toList (a:Int) l0) _ d i hi (fun j hij hj=>?_) (fun j hj=>?_) j hj
 ·have hc:(i:Int)≤((j+1:Nat):Int):=by omega
  simp only [YY,hc,if_true,iB ha,iB hj,gB ha,gB hj,XA,sB,true_and,wP (show j<9223372036854775807 by omega)]
 ·have hc:¬ (i:Int)≤(j:Int):=by omega
  simp only [YY,hc,if_false,sB,false_and]
theorem Zwk (d:Array Int) (a j:Nat) (l0:List Int) (ha:a<d.size) (hj:j<d.size) (h0:d.size=l0.length):Xo d.toList (a:Int) l0 (j:Int)=some ((j:Int),false,(swp d j a).toList):=by
 have hc:(swp d j a).toList.length=l0.length:=by simpa [size_swp] using h0
 simp only [Xo,iB ha,iB hj,gB ha,gB hj,iB1 ha,Zfo,Zg hc]
theorem Ztk (a:Nat) (l0:List Int):∀ (n i j:Nat) (d:Array Int),j+1-i=n→1≤i→a<d.size→j<d.size→d.size<4611686018427387904→i≤j+2→d.size=l0.length→Zf (Y0 (a:Int) l0) ((i:Int),(j:Int),d.toList)=some (((partLoop ltInt a i j d).1:Int),false,(swp (partLoop ltInt a i j d).2 (partLoop ltInt a i j d).1 a).toList):=by
 intro n;induction n using Nat.strongRecOn with
 | _ n ih =>
  intro i j d hn hi ha hj hs hij h0;have u1:=scanUp_ge (fun x=>ltInt x d[a]!) d j i;have v1:=scanDown_le (fun x=>!ltInt x d[a]!) d (scanUp (fun x=>ltInt x d[a]!) d j i) j
  have hst:Y0 (a:Int) l0 ((i:Int),(j:Int),d.toList)=ZR ((scanDown (fun x=>!ltInt x d[a]!) d (scanUp (fun x=>ltInt x d[a]!) d j i) j:Nat):Int) ((scanUp (fun x=>ltInt x d[a]!) d j i:Nat):Int) d.toList (a:Int) l0:=by
   rw [Y0,Zwj d a j l0 ha hj hs i,Yk,Ztj d a _ l0 ha (by omega) hs j hj]
  rw [partLoop_eq];generalize scanUp (fun x=>ltInt x d[a]!) d j i=i2 at u1 v1 hst ⊢;generalize scanDown (fun x=>!ltInt x d[a]!) d i2 j=j2 at v1 hst ⊢;by_cases g:i2 > j2
  ·rw [if_pos g]
   refine Yt ?_;rw [hst,ZR,if_pos (by omega),Zwk d a j2 l0 ha (by omega) h0];rfl
  ·rw [if_neg g]
   have hi2:i2<d.size:=by omega
   have hj2:j2<d.size:=by omega
   rw [← ih (j2-1+1-(i2+1)) (by omega) (i2+1) (j2-1) (swp d i2 j2) rfl (by omega) (by rw [size_swp]; exact ha) (by rw [size_swp]; omega) (by rw [size_swp]; exact hs) (by omega) (by rw [size_swp]; exact h0)];refine ZM ?_;rw [hst,ZR,if_neg (by omega)];simp only [iB hi2,iB hj2,gB hi2,gB hj2,iB1 hj2,Zfo,wS (show i2<9223372036854775807 by omega)];rw [wi _ (by omega),show (j2:Int)-1=((j2-1:Nat):Int) by omega]
theorem Zwl (d0:Array Int) (a b pivot:Nat) (hap:a≤pivot) (hpb:pivot<b) (hb:b≤d0.size) (hs:d0.size<4611686018427387904):Z6 d0.toList (a:Int) (b:Int) (pivot:Int)=some (((partition ltInt d0 a b pivot).1:Int),(partition ltInt d0 a b pivot).2.1,(partition ltInt d0 a b pivot).2.2.toList):=by
 have hp:pivot<d0.size:=by omega
 have ha:a<d0.size:=by omega
 rw [Z6];simp only [iB hp,iB ha,gB hp,gB ha,iB1 hp,wS (show a<9223372036854775807 by omega)];have hl:=Zfo d0 a pivot;have h0:(swp d0 a pivot).size=d0.toList.length:=by simp [size_swp]
 have ha':a<(swp d0 a pivot).size:=by rw [size_swp]; exact ha
 have hb':b≤(swp d0 a pivot).size:=by rw [size_swp]; exact hb
 have hs':(swp d0 a pivot).size<4611686018427387904:=by rw [size_swp]; exact hs
 rw [partition];simp only;generalize swp d0 a pivot=d at hl h0 ha' hb' hs' ⊢;have eb:IntKind.i64.wrap ((b:Int)-1)=((b-1:Nat):Int):=by rw [wi _ (by omega)]; omega
 have hj:b-1<d.size:=by omega
 have e1:Zf (Y2 (b:Int) d0.toList a d0[pivot]! pivot d0[a]! (a:Int)) ((a+1:Nat):Int)=Ym ((scanUp (fun x=>ltInt x d[a]!) d (b-1) (a+1):Nat):Int) d0.toList a d0[pivot]! pivot d0[a]! (a:Int) (b:Int):=by
  refine Zh8 _ (fun q=>Ym q d0.toList a d0[pivot]! pivot d0[a]! (a:Int) (b:Int)) _ d (b-1) (fun i hi=>?_) (fun i hi=>?_) _ (a+1) rfl
  ·have hc:(i:Int)≤((b-1:Nat):Int):=by omega
   have hi':i<d.size:=by omega
   simp only [Y2,eb,hl,hc,if_true,iB ha',iB hi',gB ha',gB hi',XA,sB,true_and,wS (show i<9223372036854775807 by omega)]
  ·have hc:¬ (i:Int)≤((b-1:Nat):Int):=by omega
   simp only [Y2,eb,hc,if_false,sB,false_and]
 have u1:=scanUp_ge (fun x=>ltInt x d[a]!) d (b-1) (a+1);generalize scanUp (fun x=>ltInt x d[a]!) d (b-1) (a+1)=i at e1 u1 ⊢
 have e2:Zf (Y1 (i:Int) d0.toList a d0[pivot]! pivot d0[a]! (a:Int)) ((b-1:Nat):Int)=Yl ((scanDown (fun x=>!ltInt x d[a]!) d i (b-1):Nat):Int) (i:Int) d0.toList a d0[pivot]! pivot d0[a]! (a:Int):=by
  refine Ze9 _ (fun q=>Yl q (i:Int) d0.toList a d0[pivot]! pivot d0[a]! (a:Int)) _ d i (by omega) (fun j hij hj=>?_) (fun j hj=>?_) (b-1) hj
  ·have hc:(i:Int)≤((j+1:Nat):Int):=by omega
   simp only [Y1,hl,hc,if_true,iB ha',iB hj,gB ha',gB hj,XA,sB,true_and,wP (show j<9223372036854775807 by omega)]
  ·have hc:¬ (i:Int)≤(j:Int):=by omega
   simp only [Y1,hc,if_false,sB,false_and]
 have v1:=scanDown_le (fun x=>!ltInt x d[a]!) d i (b-1);generalize scanDown (fun x=>!ltInt x d[a]!) d i (b-1)=j at e2 v1 ⊢;rw [e1,Ym,eb,e2,Yl,hl];have hj2:j<d.size:=by omega
 by_cases g:i > j
 ·have hc:(swp d j a).toList.length=d0.toList.length:=by rw [← h0]; simp [size_swp]
  simp only [if_pos (show (j:Int)<(i:Int) by omega),if_pos g,iB ha',iB hj2,gB ha',gB hj2,iB1 ha',Zfo,Zg hc]
 ·have hi2:i<d.size:=by omega
  simp only [if_neg (show ¬ (j:Int)<(i:Int) by omega),if_neg g,iB hi2,iB hj2,gB hi2,gB hj2,iB1 hj2,Zfo,wS (show i<9223372036854775807 by omega)];rw [wi _ (by omega),show (j:Int)-1=((j-1:Nat):Int) by omega,Ztk a d0.toList _ (i+1) (j-1) (swp d i j) rfl (by omega) (by rw [size_swp]; exact ha') (by rw [size_swp]; omega) (by rw [size_swp]; exact hs') (by omega) (by rw [size_swp]; exact h0)]
end
section
open Go.Sort
theorem Zit (lt:Int→Int→Bool):∀ (j:Nat) (d:Array Int),(shiftDown lt j d).size=d.size
 | 0,d=>by rw [shiftDown]
 | j+1,d=>by
  rw [shiftDown];split
  ·rfl
  ·rw [Zit lt j,size_swp]
theorem ZnA (lt:Int→Int→Bool) (b:Nat):∀ (n j:Nat) (d:Array Int),b-j=n→(shiftUp lt b j d).size=d.size:=by
 intro n;induction n with
 | zero=>intro j d h; rw [shiftUp,if_neg (by omega)]
 | succ n ih =>
  intro j d h;rw [shiftUp,if_pos (by omega)];split
  ·rfl
  ·rw [ih _ _ (by omega),size_swp]
theorem Zll (lt:Int→Int→Bool) (d:Array Int) (b:Nat):∀ (n i:Nat),b-i=n→i≤scanSorted lt d b i∧(i≤b→scanSorted lt d b i≤b):=by
 intro n;induction n with
 | zero=>intro i h; rw [scanSorted,if_neg (by simp; omega)]; exact ⟨Nat.le_refl _,fun h=>h⟩
 | succ n ih =>
  intro i h;rw [scanSorted];split
  ·have:=ih (i+1) (by omega); omega
  ·exact ⟨Nat.le_refl _,fun h=>h⟩
theorem Ztl (d:Array Int) (a b:Nat) (c:Int) (l0:List Int) (hb:b≤d.size) (hs:d.size<4611686018427387904):∀ (n i:Nat),b-i=n→1≤i→Zf (Z9 (b:Int) d.toList l0 (a:Int) c) (i:Int)=Zy ((scanSorted ltInt d b i:Nat):Int) (b:Int) d.toList l0 (a:Int) c:=by
 intro n;induction n with
 | zero =>
  intro i h hi;rw [scanSorted,if_neg (by simp; omega)];refine Yv ?_;simp only [Z9,(show ¬ (i:Int)<(b:Int) by omega),if_false,sB,false_and]
 | succ n ih =>
  intro i h hi;obtain ⟨i,rfl⟩:∃ k,i=k+1:=⟨i-1,by omega⟩
  have h1:i+1<d.size:=by omega
  have h2:i<d.size:=by omega
  have hc:((i+1:Nat):Int)<(b:Int):=by omega
  rw [scanSorted];cases hl:ltInt d[i+1]! d[i]! with
  | false =>
   rw [if_pos (by simp [hl]; omega),← ih _ (by omega) (by omega)];refine ZM ?_;simp only [Z9,hc,if_true,iB h1,gB h1,wP (show i<9223372036854775807 by omega),iB h2,gB h2,XA,sB,hl,Bool.not_false,true_and,wS (show i+1<9223372036854775807 by omega)]
  | true =>
   rw [if_neg (by simp [hl])];refine Yv ?_;simp only [Z9,hc,if_true,iB h1,gB h1,wP (show i<9223372036854775807 by omega),iB h2,gB h2,XA,sB,hl,Bool.not_true,true_and,Bool.false_eq_true,if_false]
theorem ZoA (b i:Nat) (c:Int):∀ (j:Nat) (d:Array Int),j<d.size→d.size<4611686018427387904→Zf (Z8 (b:Int) (i:Int) c) ((j:Int),d.toList)=Zx (b:Int) (i:Int) c (shiftDown ltInt j d).toList
 | 0,d,hj,hs=>by
  rw [shiftDown];refine Yv ?_;simp only [Z8,if_neg (show ¬ (1:Int)≤((0:Nat):Int) by omega)]
 | j+1,d,hj,hs=>by
  have hj':j<d.size:=by omega
  have hc:(1:Int)≤((j+1:Nat):Int):=by omega
  rw [shiftDown];cases hl:ltInt d[j+1]! d[j]! with
  | false =>
   rw [if_pos (by simp)];refine Yv ?_;simp only [Z8,if_pos hc,iB hj,gB hj,wP (show j<9223372036854775807 by omega),iB hj',gB hj',XA,sB,hl,Bool.false_eq_true,not_false_eq_true,if_true]
  | true =>
   rw [if_neg (by simp),← ZoA b i c j _ (by rw [size_swp]; exact hj') (by rw [size_swp]; exact hs)];refine ZM ?_;simp only [Z8,if_pos hc,iB hj,gB hj,wP (show j<9223372036854775807 by omega),iB hj',gB hj',XA,sB,hl,not_true_eq_false,if_false,iB1 hj',Zfo]
theorem Zwm (b i:Nat) (c:Int):∀ (n j:Nat) (d:Array Int),b-j=n→1≤j→b≤d.size→d.size<4611686018427387904→Zf (Z7 (b:Int) (i:Int) c) ((j:Int),d.toList)=Zw (i:Int) c (shiftUp ltInt b j d).toList:=by
 intro n;induction n with
 | zero =>
  intro j d h hj hb hs;rw [shiftUp,if_neg (by omega)];refine Yv ?_;simp only [Z7,if_neg (show ¬ (j:Int)<(b:Int) by omega)]
 | succ n ih =>
  intro j d h hj hb hs;obtain ⟨j,rfl⟩:∃ k,j=k+1:=⟨j-1,by omega⟩
  have h1:j+1<d.size:=by omega
  have h2:j<d.size:=by omega
  have hc:((j+1:Nat):Int)<(b:Int):=by omega
  rw [shiftUp,if_pos (by omega)];cases hl:ltInt d[j+1]! d[j]! with
  | false =>
   rw [if_pos (by simp [hl])];refine Yv ?_;simp only [Z7,if_pos hc,iB h1,gB h1,wP (show j<9223372036854775807 by omega),iB h2,gB h2,XA,sB,hl,Bool.false_eq_true,not_false_eq_true,if_true]
  | true =>
   rw [if_neg (by simp [hl]),show j+1-1=j by omega,← ih _ _ (by omega) (by omega) (by rw [size_swp]; exact hb) (by rw [size_swp]; exact hs)];refine ZM ?_;simp only [Z7,if_pos hc,iB h1,gB h1,wP (show j<9223372036854775807 by omega),iB h2,gB h2,XA,sB,hl,not_true_eq_false,if_false,iB1 h2,Zfo,wS (show j+1<9223372036854775807 by omega)]
theorem Ztm (a b:Nat) (l0:List Int):∀ (s i:Nat) (d:Array Int),s≤5→a<i→i≤b→b≤d.size→d.size<4611686018427387904→d.size=l0.length→Zf (ZQ (b:Int) l0 (a:Int)) ((i:Int),((5-s:Nat):Int),d.toList)=some ((partialIns ltInt a b s i d).2,(partialIns ltInt a b s i d).1.toList):=by
 intro s;induction s with
 | zero =>
  intro i d h5 hai hib hb hs h0;have hc:d.toList.length=l0.length:=by simpa using h0
  rw [partialIns];refine Yt ?_;simp only [ZQ,if_neg (show ¬ ((5-0:Nat):Int)<5 by omega),Xl,Zg hc];rfl
 | succ s ih =>
  intro i d h5 hai hib hb hs h0;have hc:d.toList.length=l0.length:=by simpa using h0
  obtain ⟨u1,u2⟩:=Zll ltInt d b _ i rfl
  have hst:ZQ (b:Int) l0 (a:Int) ((i:Int),((5-(s+1):Nat):Int),d.toList)=Zy ((scanSorted ltInt d b i:Nat):Int) (b:Int) d.toList l0 (a:Int) ((5-(s+1):Nat):Int):=by
   rw [ZQ,if_pos (by omega),Ztl d a b _ l0 hb hs _ i rfl (by omega)]
  rw [partialIns];have u3:=u2 hib;simp only;generalize scanSorted ltInt d b i=k at u1 u3 hst ⊢;clear u2;by_cases g:k=b
  ·rw [if_pos g]
   refine Yt ?_;rw [hst,Zy,if_pos (by omega),Zg hc]
  ·rw [if_neg g]
   by_cases g2:b-a<50
   ·rw [if_pos g2]
    refine Yt ?_;rw [hst,Zy,if_neg (by omega),wD (by omega) (by omega),if_pos (by omega),Zg hc]
   ·rw [if_neg g2]
    obtain ⟨k,rfl⟩:∃ q,k=q+1:=⟨k-1,by omega⟩
    have h1:k+1<d.size:=by omega
    have h2:k<d.size:=by omega
    rw [show k+1-1=k by omega]
    have e1:ZQ (b:Int) l0 (a:Int) ((i:Int),((5-(s+1):Nat):Int),d.toList)=Zx (b:Int) ((k+1:Nat):Int) ((5-(s+1):Nat):Int) (if k+1-a ≥ 2 then shiftDown ltInt k (swp d (k+1) k) else swp d (k+1) k).toList:=by
     rw [hst,Zy,if_neg (by omega),wD (by omega) (by omega),if_neg (by omega)];simp only [wP (show k<9223372036854775807 by omega),iB h1,iB h2,gB h1,gB h2,iB1 h2,Zfo,wD (show a≤k+1 by omega) (show k+1<9223372036854775808 by omega)];by_cases g3:k+1-a ≥ 2
     ·rw [if_pos (show (2:Int)≤((k+1-a:Nat):Int) by omega),if_pos g3,ZoA b (k+1) _ k _ (by rw [size_swp]; exact h2) (by rw [size_swp]; exact hs)]
     ·rw [if_neg (show ¬ (2:Int)≤((k+1-a:Nat):Int) by omega),if_neg g3]
    have hz:(if k+1-a ≥ 2 then shiftDown ltInt k (swp d (k+1) k) else swp d (k+1) k).size=d.size:=by
     split
     ·rw [Zit,size_swp]
     ·rw [size_swp]
    generalize (if k+1-a ≥ 2 then shiftDown ltInt k (swp d (k+1) k) else swp d (k+1) k)=d2 at e1 hz ⊢
    have hz2:(if b-(k+1) ≥ 2 then shiftUp ltInt b (k+1+1) d2 else d2).size=d.size:=by
     split
     ·rw [ZnA _ _ _ _ _ rfl,hz]
     ·exact hz
    rw [← ih (k+1) _ (by omega) (by omega) (by omega) (by rw [hz2]; exact hb) (by rw [hz2]; exact hs) (by rw [hz2]; exact h0)];refine ZM ?_;have ec:IntKind.i64.wrap (((5-(s+1):Nat):Int)+1)=((5-s:Nat):Int):=by rw [wS (by omega)]; omega
    rw [e1,Zx,wD (by omega) (by omega)];by_cases g4:b-(k+1) ≥ 2
    ·rw [if_pos (by omega),if_pos g4,wS (by omega),Zwm b (k+1) _ _ (k+1+1) d2 rfl (by omega) (by rw [hz]; exact hb) (by rw [hz]; exact hs),Zw,ec]
    ·rw [if_neg (by omega),if_neg g4,Zw,ec]
theorem Zwn (d:Array Int) (a b:Nat) (hab:a<b) (hb:b≤d.size) (hs:d.size<4611686018427387904):Yd d.toList (a:Int) (b:Int)=some ((partialInsertionSort ltInt d a b).2,(partialInsertionSort ltInt d a b).1.toList):=by
 rw [Yd,wS (by omega)];exact Ztm a b d.toList 5 (a+1) d (by omega) (by omega) (by omega) hb hs (by simp)
def In (lo hi:Nat) (x:Int):Prop:=∃ n:Nat,x=(n:Int)∧lo≤n∧n<hi
theorem xB {β:Type} {d:Array Int} {i:Nat} {f:Int→Option β} (h:i<d.size):(idx d.toList (i:Int)).bind f=f d[i]! := by
 rw [Zt (by simpa using h)]
 congr 1
 simp [getElem!_pos d i h]
theorem ZjN (d:Array Int) (lo hi:Nat) (hh:hi≤d.size) {x y:Int} (s:Int) (hx:In lo hi x) (hy:In lo hi y):Tot (Ys d.toList x y s) fun r=>In lo hi r.1∧In lo hi r.2.1:=by
 obtain ⟨i,rfl,h1,h2⟩:=hx;obtain ⟨j,rfl,h3,h4⟩:=hy;rw [Ys,xB (by omega),xB (by omega),XA,sB];exact Zio (fun _=>Zfl ⟨⟨j,rfl,h3,h4⟩,⟨i,rfl,h1,h2⟩⟩) (fun _=>Zfl ⟨⟨i,rfl,h1,h2⟩,⟨j,rfl,h3,h4⟩⟩)
theorem Zmp (d:Array Int) (lo hi:Nat) (hh:hi≤d.size) {x y z:Int} (s:Int) (hx:In lo hi x) (hy:In lo hi y) (hz:In lo hi z):Tot (YF d.toList x y z s) fun r=>In lo hi r.1:=by
 rw [YF];refine (ZjN d lo hi hh s hx hy).bind fun r1 h1=>(ZjN d lo hi hh _ h1.2 hz).bind fun r2 h2=>(ZjN d lo hi hh _ h1.1 h2.1).bind fun r3 h3=>Zfl h3.2
theorem ZhO (d:Array Int) (lo hi:Nat) (hh:hi≤d.size) (hs:d.size<4611686018427387904) (i:Nat) (s:Int) (h1:lo<i) (h2:i+1<hi):Tot (ZZ d.toList (i:Int) s) fun r=>In lo hi r.1:=by
 rw [ZZ,wS (by omega),wi _ (by omega),show (i:Int)-1=((i-1:Nat):Int) by omega];exact (Zmp d lo hi hh s ⟨i-1,rfl,by omega,by omega⟩ ⟨i,rfl,by omega,by omega⟩ ⟨i+1,rfl,by omega,by omega⟩).bind fun r h=>Zfl h
theorem Zsn {lo hi:Nat} {p:Int} (s:Int) (h:In lo hi p):Tot (Ye p s) fun r=>In lo hi r.1:=by
 rw [Ye];exact Zio (fun _=>Zfl h) (fun _=>Zio (fun _=>Zfl h) (fun _=>Zfl h))
theorem Zso (d:Array Int) (lo hi:Nat) (hh:hi≤d.size) {x y z:Int} (s:Int) (hx:In lo hi x) (hy:In lo hi y) (hz:In lo hi z):Tot (Yf d.toList x y z s) fun r=>In lo hi r.1:=by
 rw [Yf];exact (Zmp d lo hi hh s hx hy hz).bind fun r h=>Zsn _ h
theorem ZrZ (d:Array Int) (a b:Nat) (hab:a<b) (hb:b≤d.size) (hs:d.size<4611686018427387904):Tot (Yz d.toList (a:Int) (b:Int)) fun r=>In a b r.1:=by
 have e0:IntKind.i64.wrap ((b:Int)-(a:Int))=((b-a:Nat):Int):=wD (by omega) (by omega)
 have e1:IntKind.i64.wrap ((((b-a:Nat):Int)).tdiv 4)=(((b-a) / 4:Nat):Int):=by
  rw [Int.tdiv_eq_ediv_of_nonneg (by omega),wi _ (by omega)]; omega
 have e2:IntKind.i64.wrap ((((b-a) / 4:Nat):Int))=(((b-a) / 4:Nat):Int):=wI _ (by omega);have e3:IntKind.i64.wrap ((((b-a) / 4:Nat):Int) * 2)=(((b-a) / 4 * 2:Nat):Int):=by rw [wi _ (by omega)]; omega
 have e4:IntKind.i64.wrap ((((b-a) / 4:Nat):Int) * 3)=(((b-a) / 4 * 3:Nat):Int):=by rw [wi _ (by omega)]; omega
 rw [Yz];simp only [e0,e1,e2,e3,e4,wA (show a+(b-a) / 4<9223372036854775808 by omega),wA (show a+(b-a) / 4 * 2<9223372036854775808 by omega),wA (show a+(b-a) / 4 * 3<9223372036854775808 by omega)];refine Zio (fun h8=>Zio (fun h50=>?_) (fun _=>?_)) (fun _=>?_)
 ·exact (ZhO d a b hb hs _ _ (by omega) (by omega)).bind fun r1 h1=>(ZhO d a b hb hs _ _ (by omega) (by omega)).bind fun r2 h2=>(ZhO d a b hb hs _ _ (by omega) (by omega)).bind fun r3 h3=>Zso d a b hb _ h1 h2 h3
 ·exact Zso d a b hb _ ⟨_,rfl,by omega,by omega⟩ ⟨_,rfl,by omega,by omega⟩ ⟨_,rfl,by omega,by omega⟩
 ·exact Zsn _ ⟨_,rfl,by omega,by omega⟩
end
section
open Go.Sort
theorem bitLenAux_zero:∀ f:Nat,Lib.bitLenAux f 0=0
 | 0=>rfl
 | f+1=>by simp [Lib.bitLenAux]
theorem bitLenAux_pow:∀ (f x:Nat),0<x→2 ^ Lib.bitLenAux f x≤2 * x
 | 0,x,h=>by simp [Lib.bitLenAux]; omega
 | f+1,x,h=>by
  simp only [Lib.bitLenAux,if_neg (show ¬ x=0 by omega)];rcases Nat.eq_zero_or_pos (x / 2) with h0 | h0
  ·rw [h0,bitLenAux_zero]; simp; omega
  ·have:=bitLenAux_pow f (x / 2) h0
   rw [Nat.pow_add,Nat.pow_one];omega
theorem Zi6 {x:Nat} (h:0<x):2 ^ Lib.bitLen x≤2 * x:=bitLenAux_pow 64 x h
theorem ZqC {x k:Nat} (h:0<x) (hk:2 * x<2 ^ k):Lib.bitLen x<k:=by
 have:=Zi6 h;exact (Nat.pow_lt_pow_iff_right (by omega)).1 (Nat.lt_of_le_of_lt this hk)
theorem ZqD {x:Int} (h:0≤x∧x≤18446744073709551615):Za1 x=some (Lib.bitLen x.toNat:Int):=by
 rw [Za1,X3,Zg h];rfl
theorem Zlm {n:Nat} (h:n≤18446744073709551615):IntKind.u64.wrap (n:Int)=(n:Int):=wu _ (by omega)
theorem np2 {n:Nat} (h:0<n) (hn:n<4611686018427387904):XD (n:Int)=some ((2 ^ Lib.bitLen n:Nat):Int):=by
 have h1:=Zi6 h;have h2:Lib.bitLen n<64:=ZqC h (by omega);rw [XD,Zlm (by omega),ZqD (by omega),Zb,Zg (by omega)];rw [show min ((Lib.bitLen ((n:Int).toNat):Int)).toNat 64=Lib.bitLen n by simp; omega];rw [show (1 * (2 ^ Lib.bitLen n):Int)=((2 ^ Lib.bitLen n:Nat):Int) by simp];rw [Zlm (by omega)]
theorem Zn8 (x:Int) {m:Nat} (h:m≤18446744073709551615):∃ q:Nat,bits .and .u64 x (m:Int)=(q:Int)∧q≤m:=by
 refine ⟨(BitVec.ofInt 64 x &&& BitVec.ofInt 64 (m:Int)).toNat,?_,?_⟩
 ·have hb:=(BitVec.ofInt 64 x &&& BitVec.ofInt 64 (m:Int)).isLt
  show IntKind.u64.wrap ((BitVec.ofInt 64 x &&& BitVec.ofInt 64 (m:Int)).toNat:Int)=_
  exact Zlm (by omega)
 ·rw [BitVec.toNat_and]
  refine Nat.le_trans Nat.and_le_right ?_;simp [BitVec.toNat_ofInt]
  omega
theorem Zwo (d:Array Int) (a idx:Nat) (y:Int×Int) (o:Nat) (h1:idx<d.size) (h2:a+o<d.size) (hs:d.size<4611686018427387904):ZS d.toList (a:Int) (idx:Int) y (o:Int)=some (.inl (((idx+1:Nat):Int),(swp d idx (a+o)).toList,y.2)):=by
 rw [ZS];simp only [wA (show a+o<9223372036854775808 by omega),iB h1,iB h2,gB h1,gB h2,iB1 h2,Zfo,wS (show idx<9223372036854775807 by omega)]
theorem Ztn (d:Array Int) (a b:Nat) (hab:a≤b) (hb:b≤d.size) (hs:d.size<4611686018427387904):∃ d',Z3 d.toList (a:Int) (b:Int)=some d'.toList∧PermIn a b d d' := by
 have e0:IntKind.i64.wrap ((b:Int)-(a:Int))=((b-a:Nat):Int):=wD (by omega) (by omega);rw [Z3];by_cases h8:8≤b-a
 ·have e1:IntKind.i64.wrap ((((b-a:Nat):Int)).tdiv 4)=(((b-a) / 4:Nat):Int):=by
   rw [Int.tdiv_eq_ediv_of_nonneg (by omega),wi _ (by omega)]; omega
  have e3:IntKind.i64.wrap ((((b-a) / 4:Nat):Int) * 2)=(((b-a) / 4 * 2:Nat):Int):=by rw [wi _ (by omega)]; omega
  have e4:IntKind.i64.wrap (((a+(b-a) / 4 * 2:Nat):Int)-1)=((a+(b-a) / 4 * 2-1:Nat):Int):=by rw [wi _ (by omega)]; omega
  have hy:=Zi6 (x:=b-a) (by omega);have hy0:0<2 ^ Lib.bitLen (b-a):=Nat.pow_pos (by omega);have e5:IntKind.u64.wrap (((2 ^ Lib.bitLen (b-a):Nat):Int)-1)=((2 ^ Lib.bitLen (b-a)-1:Nat):Int):=by rw [wu _ (by omega)]; omega
  rw [if_pos (by omega),e0,np2 (by omega) (by omega),Zb];simp only [e1,e3,wA (show a+(b-a) / 4 * 2<9223372036854775808 by omega),e4];generalize 2 ^ Lib.bitLen (b-a)=y at hy hy0 e5;have hl:=Xg (step:=YI (a:Int) (b:Int) (y:Int) d.toList) (fun n s=>∃ (idx:Nat) (d':Array Int),s.1=(idx:Int)∧s.2.1=d'.toList∧PermIn a b d d'∧a≤idx∧idx≤a+(b-a) / 4 * 2+2∧n=a+(b-a) / 4 * 2+2-idx) (fun r=>∃ d':Array Int,r=d'.toList∧PermIn a b d d') ?_ _ ((a+(b-a) / 4 * 2-1:Nat),d.toList,IntKind.u64.wrap ((b-a:Nat):Int)) ⟨_,d,rfl,rfl,permIn_refl d a b,by omega,by omega,rfl⟩
  ·obtain ⟨r,h1,d',rfl,h2⟩:=hl
   exact ⟨d',h1,h2⟩
  ·rintro n ⟨p1,p2,p3⟩ ⟨idx,d',h1,h2,hp,ha,hi,hn⟩
   simp only at h1 h2;subst h1 h2 hn;have hz:d'.size=d.size:=hp.1;by_cases hc:idx≤a+(b-a) / 4 * 2+1
   ·refine .inl ?_
    obtain ⟨q,hq,hqy⟩:=Zn8 (x:=(bits .xor .u64 (bits .xor .u64 (bits .xor .u64 p3 (IntKind.u64.wrap (p3 * 8192))) ((bits .xor .u64 p3 (IntKind.u64.wrap (p3 * 8192))).fdiv 128)) (IntKind.u64.wrap ((bits .xor .u64 (bits .xor .u64 p3 (IntKind.u64.wrap (p3 * 8192))) ((bits .xor .u64 p3 (IntKind.u64.wrap (p3 * 8192))).fdiv 128)) * 131072)))) (m:=y-1) (by omega)
    have hk:∀ (o:Nat) (yy:Int×Int),o<b-a→∃ j s',j<a+(b-a) / 4 * 2+2-idx∧ZS d'.toList (a:Int) (idx:Int) yy (o:Int)=some (.inl s')∧∃ (idx2:Nat) (d2:Array Int),s'.1=(idx2:Int)∧s'.2.1=d2.toList∧PermIn a b d d2∧a≤idx2∧idx2≤a+(b-a) / 4 * 2+2∧j=a+(b-a) / 4 * 2+2-idx2:=by
     intro o yy ho;refine ⟨a+(b-a) / 4 * 2+2-(idx+1),_,by omega,Zwo d' a idx yy o (by omega) (by omega) (by omega),idx+1,_,rfl,rfl,?_,by omega,by omega,rfl⟩;exact permIn_trans _ _ _ a b hp (swp_permIn d' a b idx (a+o) (by omega) (by omega) (by omega) (by omega) (by omega))
    rw [YI];simp only [e0,e1,e3,wA (show a+(b-a) / 4 * 2<9223372036854775808 by omega),wS (show a+(b-a) / 4 * 2<9223372036854775807 by omega),if_pos (show (idx:Int)≤((a+(b-a) / 4 * 2+1:Nat):Int) by omega),ZaA,Zb,e5,hq,wI q (by omega)];by_cases ho:b-a≤q
    ·rw [if_pos (by omega),wD ho (by omega)]
     exact hk (q-(b-a)) _ (by omega)
    ·rw [if_neg (by omega)]
     exact hk q _ (by omega)
   ·refine .inr ⟨d'.toList,?_,d',rfl,hp⟩
    rw [YI];simp only [e0,e1,e3,wA (show a+(b-a) / 4 * 2<9223372036854775808 by omega),wS (show a+(b-a) / 4 * 2<9223372036854775807 by omega),if_neg (show ¬ (idx:Int)≤((a+(b-a) / 4 * 2+1:Nat):Int) by omega)];rw [Zg (by simp [hz])]
 ·rw [if_neg (by omega)]
  exact ⟨d,rfl,permIn_refl d a b⟩
def Srt (a b:Nat) (d:Array Int) (x:Option (List Int)):Prop:=∃ d',x=some d'.toList∧PermIn a b d d'∧SortedIn ltInt a b d'
theorem ZuN (l0:List Int) (rf:List Int→Int→Int→Int→Option (List Int)) (wb wp:Bool) (lim:Int) (d:Array Int) (a b:Nat) (hab:a<b) (hb:b≤d.size) (hs:d.size<4611686018427387904) :
  ∃ (d2:Array Int) (pv:Nat) (hint:Int),PermIn a b d d2∧a≤pv∧pv<b∧ZG (a:Int) (b:Int) wb wp l0 rf lim d.toList=Zv wb wp (a:Int) (b:Int) l0 lim rf (pv:Int) hint d2.toList:=by
 obtain ⟨r,hr,p,hp,h1,h2⟩:=ZrZ d a b hab hb hs;rw [ZG,hr,Zb];by_cases g:r.2=2
 ·have hrev:=reverseRange_holds d a b (by omega) hb
  refine ⟨reverseRange d a b,b-1-(p-a),1,hrev,by omega,by omega,?_⟩;rw [if_pos g,ZuM d a b hab hb hs,Zb,Zg (by simp [hrev.1]),hp,wD h1 (by omega),wi ((b:Int)-1) (by omega),show (b:Int)-1=((b-1:Nat):Int) by omega,wD (by omega) (by omega)]
 ·exact ⟨d,p,r.2,permIn_refl d a b,h1,h2,by rw [if_neg g,hp]⟩
theorem ZuO (l0:List Int) (rf:List Int→Int→Int→Int→Option (List Int)) (wb wp:Bool) (lim:Int) (d:Array Int) (a b pv:Nat) (hint:Int) (hab:a<b) (hb:b≤d.size) (hs:d.size<4611686018427387904) (h0:d.size=l0.length) (hB:Below ltInt a b d) :
  ∃ d3:Array Int,PermIn a b d d3∧((Zv wb wp (a:Int) (b:Int) l0 lim rf (pv:Int) hint d.toList=some (.inr d3.toList)∧SortedIn ltInt a b d3)∨Zv wb wp (a:Int) (b:Int) l0 lim rf (pv:Int) hint d.toList=Zu (a:Int) (pv:Int) (b:Int) lim wb wp rf d3.toList):=by
 by_cases g:(wb=true∧wp=true)∧hint=1
 ·obtain ⟨h1,h2⟩:=partialInsertionSort_holds swo_ltInt d a b hab hb hB
  refine ⟨(partialInsertionSort ltInt d a b).1,h1,?_⟩;have hz:=h1.1;rw [Zv,if_pos g,Zwn d a b hab hb hs,Zb,Zg (by simp [hz])];by_cases gf:(partialInsertionSort ltInt d a b).2=true
  ·refine .inl ⟨?_,h2 gf⟩
   rw [if_pos gf,Zg (by simp [hz,h0])]
  ·refine .inr ?_
   rw [if_neg gf]
 ·exact ⟨d,permIn_refl d a b,.inr (by rw [Zv,if_neg g])⟩
theorem Zr0 (rf:List Int→Int→Int→Int→Option (List Int)) (l0:List Int) (M:Nat) (hrf:∀ (a b:Nat) (d:Array Int) (lim:Int),b-a<M→a≤b→b≤d.size→d.size<4611686018427387904→Below ltInt a b d→Srt a b d (rf d.toList (a:Int) (b:Int) lim)) :
  ∀ (m a b:Nat) (d:Array Int) (lim:Int) (wb wp:Bool),b-a=m→m≤M→a≤b→b≤d.size→d.size<4611686018427387904→d.size=l0.length→Below ltInt a b d→Srt a b d (Zf (ZH l0 rf) ((a:Int),(b:Int),lim,wb,wp,d.toList)):=by
 intro m;induction m using Nat.strongRecOn with
 | _ m ih =>
  intro a b d lim wb wp hm hM hab hb hs h0 hB;have e0:IntKind.i64.wrap ((b:Int)-(a:Int))=((b-a:Nat):Int):=wD (by omega) (by omega);by_cases h12:b-a≤12
  ·obtain ⟨h1,h2⟩:=insertionSort_holds swo_ltInt d a b hab hb
   refine ⟨insertionSort ltInt d a b,Yt ?_,h1,h2⟩;simp only [ZH,e0,if_pos (show ((b-a:Nat):Int)≤12 by omega)];rw [ZuL d a b hb hab hs,Zb,Zg (by simp [h1.1]),Zg (by simp [h1.1,h0])]
  ·by_cases hl:lim=0
   ·obtain ⟨h1,h2⟩:=heapSort_holds swo_ltInt d a b hab hb
    refine ⟨heapSort ltInt d a b,Yt ?_,h1,h2⟩;simp only [ZH,e0,if_neg (show ¬ ((b-a:Nat):Int)≤12 by omega),if_pos hl];rw [Ztg d a b hab hb hs,Zb,Zg (by simp [h1.1]),Zg (by simp [h1.1,h0])]
   ·-- the patterns
    obtain ⟨d1,lim1,hp1,hst1⟩:∃ (d1:Array Int) (lim1:Int),PermIn a b d d1∧ZH l0 rf ((a:Int),(b:Int),lim,wb,wp,d.toList)=ZG (a:Int) (b:Int) wb wp l0 rf lim1 d1.toList:=by
     cases wb with
     | true=>exact ⟨d,lim,permIn_refl d a b,by simp only [ZH,e0,if_neg (show ¬ ((b-a:Nat):Int)≤12 by omega),if_neg hl,not_true_eq_false,if_false]⟩
     | false =>
      obtain ⟨d1,hd1,hp1⟩:=Ztn d a b hab hb hs;refine ⟨d1,IntKind.i64.wrap (lim-1),hp1,?_⟩;simp only [ZH,e0,if_neg (show ¬ ((b-a:Nat):Int)≤12 by omega),if_neg hl,Bool.false_eq_true,not_false_eq_true,if_true];rw [hd1,Zb,Zg (by simp [hp1.1])]
    have z1:=hp1.1;obtain ⟨d2,pv,hint,hp2,hv1,hv2,hst2⟩:=ZuN l0 rf wb wp lim1 d1 a b (by omega) (by omega) (by omega);have z2:=hp2.1;have hp12:=permIn_trans _ _ _ a b hp1 hp2;have B2:Below ltInt a b d2:=hB.perm hb hp12;obtain ⟨d3,hp3,hst3⟩:=ZuO l0 rf wb wp lim1 d2 a b pv hint (by omega) (by omega) (by omega) (by omega) B2;have z3:=hp3.1;have P3:=permIn_trans _ _ _ a b hp12 hp3;have B3:Below ltInt a b d3:=hB.perm hb P3;have b3:b≤d3.size:=by omega
    have s3:d3.size<4611686018427387904:=by omega
    rcases hst3 with ⟨hst3,hS⟩ | hst3
    ·exact ⟨d3,Yt (by rw [hst1,hst2,hst3]),P3,hS⟩
    ·have hst:=hst1.trans (hst2.trans hst3)
     have hpv:pv<d3.size:=by omega
     clear hst1 hst2 hst3
     have hE:0<a→ltInt d3[a-1]! d3[pv]! = false→ZH l0 rf ((a:Int),(b:Int),lim,wb,wp,d.toList)=((ZP d3.toList (a:Int) (b:Int) (pv:Int)).bind fun y130=>(chk (y130.2.length=d3.toList.length)).bind fun _=>some (.inl (y130.1,(b:Int),lim1,wb,wp,y130.2))):=by
      intro ha hlt;obtain ⟨a,rfl⟩:∃ q,a=q+1:=⟨a-1,by omega⟩
      rw [show a+1-1=a by omega] at hlt;have h1:a<d3.size:=by omega
      rw [hst,Zu];simp only [(show (0:Int)<((a+1:Nat):Int) by omega),if_true,wP (show a<9223372036854775807 by omega),iB h1,gB h1,iB hpv,gB hpv,XA,sB,hlt,Bool.not_false,true_and]
     have hP:(0<a→ltInt d3[a-1]! d3[pv]! = true)→ZH l0 rf ((a:Int),(b:Int),lim,wb,wp,d.toList)=((Z6 d3.toList (a:Int) (b:Int) (pv:Int)).bind fun y132=>(chk (y132.2.2.length=d3.toList.length)).bind fun _=>(if IntKind.i64.wrap (y132.1-(a:Int))<IntKind.i64.wrap ((b:Int)-y132.1) then (rf y132.2.2 (a:Int) y132.1 lim1).bind fun y134=>(chk (y134.length=y132.2.2.length)).bind fun _=>some (.inl (IntKind.i64.wrap (y132.1+1),(b:Int),lim1,decide (IntKind.i64.wrap ((IntKind.i64.wrap ((b:Int)-(a:Int))).tdiv 8)≤IntKind.i64.wrap (y132.1-(a:Int))),y132.2.1,y134)) else (rf y132.2.2 (IntKind.i64.wrap (y132.1+1)) (b:Int) lim1).bind fun y136=>(chk (y136.length=y132.2.2.length)).bind fun _=>some (.inl ((a:Int),y132.1,lim1,decide (IntKind.i64.wrap ((IntKind.i64.wrap ((b:Int)-(a:Int))).tdiv 8)≤IntKind.i64.wrap ((b:Int)-y132.1)),y132.2.1,y136)))):=by
      intro hlt;rw [hst,Zu];by_cases ha:0<a
      ·have hlt:=hlt ha
       obtain ⟨a,rfl⟩:∃ q,a=q+1:=⟨a-1,by omega⟩
       rw [show a+1-1=a by omega] at hlt;have h1:a<d3.size:=by omega
       simp only [(show (0:Int)<((a+1:Nat):Int) by omega),if_true,wP (show a<9223372036854775807 by omega),iB h1,gB h1,iB hpv,gB hpv,XA,sB,hlt,Bool.not_true,true_and,Bool.false_eq_true,if_false]
      ·simp only [(show ¬ (0:Int)<(a:Int) by omega),if_false,sB,false_and]
     by_cases hc:0<a∧ltInt d3[a-1]! d3[pv]! = false
     ·-- equal elements
      obtain ⟨ha,hlt⟩:=hc;obtain ⟨g1,g2,g3,g4,g5⟩:=round_eq (mid:=(partitionEqual ltInt d3 a b pv).1) (d4:=(partitionEqual ltInt d3 a b pv).2) swo_ltInt (partitionEqual_holds ltInt) ha hv1 hv2 b3 B3 hlt rfl;have hst' := hE ha hlt;rw [Zwi d3 a b pv hv1 hv2 b3 s3,Zb,Zg (by simp [g3])] at hst';obtain ⟨R,h1,h2,h3⟩:=ih (b-(partitionEqual ltInt d3 a b pv).1) (by omega) (partitionEqual ltInt d3 a b pv).1 b (partitionEqual ltInt d3 a b pv).2 lim1 wb wp rfl (by omega) g2 (by omega) (by omega) (by omega) g4;obtain ⟨k1,k2⟩:=g5 R h2 h3;exact ⟨R,(ZM hst').trans h1,permIn_trans _ _ _ a b P3 k1,k2⟩
     ·have hst' := hP (fun ha=>by
       cases hx:ltInt d3[a-1]! d3[pv]! with
       | true=>rfl
       | false=>exact absurd ⟨ha,hx⟩ hc)
      obtain ⟨g1,g2,g3,g4,g5,g6,g7⟩:=round_part (mid:=(partition ltInt d3 a b pv).1) (ap:=(partition ltInt d3 a b pv).2.1) (d4:=(partition ltInt d3 a b pv).2.2) swo_ltInt (partition_holds ltInt) hv1 hv2 b3 B3 rfl;rw [Zwl d3 a b pv hv1 hv2 b3 s3,Zb,Zg (by simp [g3])] at hst';generalize (partition ltInt d3 a b pv).1=mid at g1 g2 g4 g5 g6 g7 hst';generalize (partition ltInt d3 a b pv).2.1=ap at hst';generalize (partition ltInt d3 a b pv).2.2=d4 at g3 g4 g5 g6 g7 hst';simp only [wD g1 (show mid<9223372036854775808 by omega),wD (show mid≤b by omega) (show b<9223372036854775808 by omega),wS (show mid<9223372036854775807 by omega)] at hst';by_cases hlr:mid-a<b-mid
      ·rw [if_pos (by omega)] at hst'
       obtain ⟨L,l1,l2,l3⟩:=hrf a mid d4 lim1 (by omega) g1 (by omega) (by omega) g4;rw [l1,Zb,Zg (by simp [l2.1])] at hst';obtain ⟨k1,k2⟩:=g6 L l2 l3;have zl:=l2.1;obtain ⟨R,h1,h2,h3⟩:=ih (b-(mid+1)) (by omega) (mid+1) b L lim1 _ ap rfl (by omega) (by omega) (by omega) (by omega) (by omega) k1;obtain ⟨q1,q2⟩:=k2 R h2 h3;exact ⟨R,(ZM hst').trans h1,permIn_trans _ _ _ a b P3 q1,q2⟩
      ·rw [if_neg (by omega)] at hst'
       obtain ⟨L,l1,l2,l3⟩:=hrf (mid+1) b d4 lim1 (by omega) (by omega) (by omega) (by omega) g5;rw [l1,Zb,Zg (by simp [l2.1])] at hst';obtain ⟨k1,k2⟩:=g7 L l2 l3;have zl:=l2.1;obtain ⟨R,h1,h2,h3⟩:=ih (mid-a) (by omega) a mid L lim1 _ ap rfl (by omega) (by omega) (by omega) (by omega) (by omega) k1;obtain ⟨q1,q2⟩:=k2 R h2 h3;exact ⟨R,(ZM hst').trans h1,permIn_trans _ _ _ a b P3 q1,q2⟩
theorem pdq_n:∀ (n a b:Nat) (d:Array Int) (lim:Int),b-a<n→a≤b→b≤d.size→d.size<4611686018427387904→Below ltInt a b d→Srt a b d (Lslices_pdqsortOrdered_of_uint64_n n d.toList (a:Int) (b:Int) lim):=by
 intro n;induction n with
 | zero=>intro a b d lim h; omega
 | succ n ih =>
  intro a b d lim h hab hb hs hB;rw [Lslices_pdqsortOrdered_of_uint64_n,Yu];exact Zr0 (Lslices_pdqsortOrdered_of_uint64_n n) d.toList n (fun a b d lim h1 h2 h3 h4 h5=>ih a b d lim h1 h2 h3 h4 h5) _ a b d lim true true rfl (by omega) hab hb hs (by simp) hB
theorem Zew {α β:Type} {x:Option α} {f g:α→Option β} {b:β} (h:x.bind f=some b) (k:∀ a,f a=some b→g a=some b):x.bind g=some b:=by
 cases x with
 | none=>cases h
 | some a=>exact k a h
theorem Zpx {σ ρ:Type} {step step':σ→Option (σ ⊕ ρ)} (h:∀ s r,step s=some r→step' s=some r):∀ (m:Nat) (s:σ) (r:ρ),ZbG step m s=some r→ZbG step' m s=some r:=by
 intro m;induction m with
 | zero=>intro s r hr; simp [ZbG] at hr
 | succ m ih =>
  intro s r hr;simp only [ZbG] at hr ⊢;cases hs:step s with
  | none=>simp [hs] at hr
  | some x =>
   rw [hs] at hr;rw [h s x hs];cases x with
   | inl s'=>exact ih s' r hr
   | inr r'=>exact hr
theorem ZnB {σ ρ:Type} {step step':σ→Option (σ ⊕ ρ)} (h:∀ s r,step s=some r→step' s=some r) {s:σ} {r:ρ} (hr:Zf step s=some r):Zf step' s=some r:=by
 obtain ⟨m,hm⟩:=ZcJ.1 hr;exact ZcJ.2 ⟨m,Zpx h m s r hm⟩
theorem Zr1 {rf rf':List Int→Int→Int→Int→Option (List Int)} (h:∀ l a b c x,rf l a b c=some x→rf' l a b c=some x) {l:List Int} {a b c:Int} {x:List Int} (hx:Yu rf l a b c=some x):Yu rf' l a b c=some x:=by
 have h3:∀ p101 p118 p102 p113 p104 p105 p123 r,Zu p101 p118 p102 p113 p104 p105 rf p123=some r→Zu p101 p118 p102 p113 p104 p105 rf' p123=some r:=by
  intro p101 p118 p102 p113 p104 p105 p123 r hr;unfold Zu at hr ⊢;refine Zew hr fun z hr=>?_
  split
  ·rename_i g
   rw [if_pos g] at hr;exact hr
  ·rename_i g
   rw [if_neg g] at hr;refine Zew hr fun y hr=>Zew hr fun _ hr=>?_
   split
   ·rename_i g
    rw [if_pos g] at hr;cases hq:rf y.2.2 p101 y.1 p113 with
    | none=>rw [hq] at hr; cases hr
    | some w=>rw [hq] at hr; rw [h _ _ _ _ _ hq]; exact hr
   ·rename_i g
    rw [if_neg g] at hr;cases hq:rf y.2.2 (IntKind.i64.wrap (y.1+1)) p102 p113 with
    | none=>rw [hq] at hr; cases hr
    | some w=>rw [hq] at hr; rw [h _ _ _ _ _ hq]; exact hr
 have h2:∀ p104 p105 p101 p102 a0 p113 p118 p119 p120 r,Zv p104 p105 p101 p102 a0 p113 rf p118 p119 p120=some r→Zv p104 p105 p101 p102 a0 p113 rf' p118 p119 p120=some r:=by
  intro p104 p105 p101 p102 a0 p113 p118 p119 p120 r hr;unfold Zv at hr ⊢;split
  ·rename_i g
   rw [if_pos g] at hr;refine Zew hr fun y hr=>Zew hr fun _ hr=>?_
   split
   ·rename_i g
    rw [if_pos g] at hr;exact hr
   ·rename_i g
    rw [if_neg g] at hr;exact h3 _ _ _ _ _ _ _ _ hr
  ·rename_i g
   rw [if_neg g] at hr;exact h3 _ _ _ _ _ _ _ _ hr
 have h1:∀ p101 p102 p104 p105 a0 p113 p114 r,ZG p101 p102 p104 p105 a0 rf p113 p114=some r→ZG p101 p102 p104 p105 a0 rf' p113 p114=some r:=by
  intro p101 p102 p104 p105 a0 p113 p114 r hr;unfold ZG at hr ⊢;refine Zew hr fun y hr=>?_
  split
  ·rename_i g
   rw [if_pos g] at hr;exact Zew hr fun y hr=>Zew hr fun _ hr=>h2 _ _ _ _ _ _ _ _ _ _ hr
  ·rename_i g
   rw [if_neg g] at hr;exact h2 _ _ _ _ _ _ _ _ _ _ hr
 unfold Yu at hx ⊢;refine ZnB ?_ hx;rintro ⟨p101,p102,p103,p104,p105,p106⟩ r hr
 simp only [ZH] at hr ⊢;split
 ·rename_i g
  rw [if_pos g] at hr;exact hr
 ·rename_i g
  rw [if_neg g] at hr;split
  ·rename_i g
   rw [if_pos g] at hr;exact hr
  ·rename_i g
   rw [if_neg g] at hr;split
   ·rename_i g
    rw [if_pos g] at hr;exact Zew hr fun y hr=>Zew hr fun _ hr=>h1 _ _ _ _ _ _ _ _ hr
   ·rename_i g
    rw [if_neg g] at hr;exact h1 _ _ _ _ _ _ _ _ hr
theorem pdq_n_more:∀ (n k:Nat) (l:List Int) (a b c:Int) (x:List Int),Lslices_pdqsortOrdered_of_uint64_n n l a b c=some x→Lslices_pdqsortOrdered_of_uint64_n (n+k) l a b c=some x:=by
 intro n;induction n with
 | zero=>intro k l a b c x h; simp [Lslices_pdqsortOrdered_of_uint64_n] at h
 | succ n ih =>
  intro k l a b c x h;rw [show n+1+k=n+k+1 by omega];rw [Lslices_pdqsortOrdered_of_uint64_n] at h ⊢;exact Zr1 (fun l a b c x h=>ih k l a b c x h) h
theorem Zmq {α:Type} {g:Nat→Option α} (h:∀ n k x,g n=some x→g (n+k)=some x) {n:Nat} {y:α} (hn:g n=some y):ZjD g=some y :=
 ZsR (fun m x hx=>by
  have h1:=h m n x hx;have h2:=h n m y hn;rw [Nat.add_comm,h2] at h1
  exact (Option.some.inj h1).symm) ⟨n,hn⟩
def srt (l:List Int):List Int:=l.mergeSort fun x y=>decide (x≤y)
theorem Zex (l:List Int):(srt l).length=l.length:=List.length_mergeSort _
theorem Zto (l:List Int) (hs:l.length<4611686018427387904):Xb l=some (srt l):=by
 obtain ⟨d',h1,h2,h3⟩:=pdq_n (l.length+1) 0 l.length l.toArray (Lib.bitLen l.length:Int) (by omega) (by omega) (by simp) (by simpa using hs) (.inl rfl);have hu:=sorted_unique_holds swo_ltInt (fun x y h1 h2=>by simp only [ltInt,decide_eq_false_iff_not] at h1 h2; omega) l.toArray d' (by simpa using h2) (by simpa using h3)
 have hd:d'.toList=srt l:=by
  rw [hu,srt];show l.mergeSort _=_
  congr 1
  funext x y
  simp [ltInt]
  by_cases h:x≤y
  ·simp [h]
   try omega
  ·simp [h]
   try omega
 rw [hd] at h1;have hf:XB l 0 (l.length:Int) (Lib.bitLen l.length:Int)=some (srt l):=Zmq (g:=fun n=>Lslices_pdqsortOrdered_of_uint64_n n l 0 (l.length:Int) (Lib.bitLen l.length:Int)) (fun n k x h=>pdq_n_more n k _ _ _ _ _ h) h1;rw [Xb,Zlm (by omega),ZqD (by omega),Zb,show ((l.length:Int)).toNat=l.length by omega,hf,Zb,Zg (Zex l),Zg (Zex l)]
end
section
set_option maxRecDepth 100000
def bb (x:Int) (k:Nat):Bool:=decide ((x / 2 ^ (7-k)) % 2=1)
def bt (d:List Int) (i:Nat):Bool:=bb (d.getD (i / 8) 0) (i % 8)
def bl (d:List Int) (n:Nat):List Bool:=(List.range n).map (bt d)
def Byt (d:List Int):Prop:=∀ x∈d,0≤x∧x≤255
structure VB (d:List Int) (n:Nat):Prop where
 byt:Byt d
 len:d.length=(n+7) / 8
 rest:∀ i,n≤i→bt d i=false
theorem Byt.get {d:List Int} (h:Byt d) (i:Nat):0≤d.getD i 0∧d.getD i 0≤255:=by
 rw [List.getD_eq_getElem?_getD];by_cases hi:i<d.length
 ·simp only [List.getElem?_eq_getElem hi,Option.getD_some]
  exact h _ (List.getElem_mem hi)
 ·simp [List.getElem?_eq_none (Nat.le_of_not_lt hi)]
theorem byte_sum:∀ x:Fin 256,(x.val:Int)=(if bb x.val 0 then 128 else 0)+(if bb x.val 1 then 64 else 0)+(if bb x.val 2 then 32 else 0)+(if bb x.val 3 then 16 else 0)+(if bb x.val 4 then 8 else 0)+(if bb x.val 5 then 4 else 0)+(if bb x.val 6 then 2 else 0)+(if bb x.val 7 then 1 else 0):=by decide +kernel
theorem Zr2 {x y:Int} (hx:0≤x∧x≤255) (hy:0≤y∧y≤255) (h:∀ k,k<8→bb x k=bb y k):x=y:=by
 obtain ⟨a,rfl⟩:∃ a:Fin 256,x=(a.val:Int):=⟨⟨x.toNat,by omega⟩,by simp only; omega⟩
 obtain ⟨b,rfl⟩:∃ a:Fin 256,y=(a.val:Int):=⟨⟨y.toNat,by omega⟩,by simp only; omega⟩
 rw [byte_sum a,byte_sum b,h 0 (by omega),h 1 (by omega),h 2 (by omega),h 3 (by omega),h 4 (by omega),h 5 (by omega),h 6 (by omega),h 7 (by omega)]
theorem ZuP {d d':List Int} {n:Nat} (h:VB d n) (h':VB d' n) (e:bl d n=bl d' n):d=d' := by
 have hb:∀ i,bt d i=bt d' i:=by
  intro i;by_cases hi:i<n
  ·have:=congrArg (fun l=>l[i]?) e
   simpa [bl,hi] using this
  ·rw [h.rest i (by omega),h'.rest i (by omega)]
 apply List.ext_getElem (by rw [h.len,h'.len])
 intro i h1 h2;have g1:d.getD i 0=d[i]:=by simp [List.getD_eq_getElem?_getD,h1]
 have g2:d'.getD i 0=d'[i]:=by simp [List.getD_eq_getElem?_getD,h2]
 refine Zr2 (h.byt _ (List.getElem_mem h1)) (h'.byt _ (List.getElem_mem h2)) fun k hk=>?_
 have:=hb (8 * i+k);simp only [bt,show (8 * i+k) / 8=i by omega,show (8 * i+k) % 8=k by omega,g1,g2] at this;exact this
theorem or_byte:∀ (x:Fin 256) (k j:Fin 8),bb (bits .or .u8 (x.val:Int) (2 ^ (7-k.val))) j.val=(decide (j=k) || bb (x.val:Int) j.val):=by decide +kernel
theorem or_range:∀ (x:Fin 256) (k:Fin 8),0≤bits .or .u8 (x.val:Int) (2 ^ (7-k.val))∧bits .or .u8 (x.val:Int) (2 ^ (7-k.val))≤255:=by decide +kernel
def nd (d:List Int) (n:Nat) (b:Bool):List Int :=
 let d1:=if n % 8=0 then d++[0] else d
 if b=true then d1.set (n / 8) (bits .or .u8 (d1.getD (n / 8) 0) (2 ^ (7-n % 8))) else d1
theorem ZqE (d:List Int) (q:Nat):(d++[0]).getD q 0=d.getD q 0:=by
 simp only [List.getD_eq_getElem?_getD];by_cases h:q<d.length
 ·rw [List.getElem?_append_left h]
 ·rw [List.getElem?_append_right (by omega),List.getElem?_eq_none (Nat.le_of_not_lt h)]
  rcases Nat.eq_zero_or_pos (q-d.length) with h0 | h0
  ·rw [h0]; rfl
  ·rw [List.getElem?_eq_none (by simp; omega)]
theorem Zr3 (d:List Int) (p q:Nat) (x:Int) (h:p<d.length):(d.set p x).getD q 0=if q=p then x else d.getD q 0:=by
 simp only [List.getD_eq_getElem?_getD,List.getElem?_set];by_cases e:q=p
 ·subst e; simp [h]
 ·simp [e,Ne.symm e]
theorem Ztp {d:List Int} {n:Nat} (b:Bool) (h:VB d n):VB (nd d n b) (n+1)∧bl (nd d n b) (n+1)=bl d n++[b]:=by
 have hlen:=h.len
 have hd1:∃ d1,d1=(if n % 8=0 then d++[0] else d)∧d1.length=(n+8) / 8∧(∀ q,d1.getD q 0=d.getD q 0)∧Byt d1:=by
  refine ⟨_,rfl,?_,?_,?_⟩
  ·split
   ·simp; omega
   ·omega
  ·intro q
   split
   ·exact ZqE d q
   ·rfl
  ·split
   ·intro x hx
    simp only [List.mem_append,List.mem_singleton] at hx;rcases hx with hx | rfl
    ·exact h.byt x hx
    ·omega
   ·exact h.byt
 obtain ⟨d1,e1,l1,g1,y1⟩:=hd1;have hn8:n / 8<d1.length:=by omega
 have hx:=y1.get (n / 8)
 have hbt:∀ i,bt (nd d n b) i=if i=n then b else bt d i:=by
  intro i;unfold nd;rw [← e1];simp only;cases b with
  | false =>
   simp only [Bool.false_eq_true,if_false,bt,g1];split
   ·rename_i e
    subst e;exact h.rest i (Nat.le_refl _)
   ·rfl
  | true =>
   simp only [if_true,bt];rw [Zr3 _ _ _ _ hn8];obtain ⟨x,hxe⟩:∃ x:Fin 256,d1.getD (n / 8) 0=(x.val:Int):=⟨⟨(d1.getD (n / 8) 0).toNat,by omega⟩,by simp only; omega⟩
   have ho:=or_byte x ⟨n % 8,Nat.mod_lt _ (by omega)⟩ ⟨i % 8,Nat.mod_lt _ (by omega)⟩;simp only at ho;by_cases e:i / 8=n / 8
   ·rw [if_pos e,hxe,ho,e,← g1,hxe]
    by_cases e2:i=n
    ·subst e2; simp
    ·rw [if_neg e2,show (decide ((⟨i % 8,Nat.mod_lt _ (by omega)⟩:Fin 8)=⟨n % 8,Nat.mod_lt _ (by omega)⟩))=false by simp; omega]
     simp
   ·rw [if_neg e,if_neg (by intro e2; exact e (by rw [e2])),g1]
 have hl2:(nd d n b).length=d1.length:=by
  unfold nd;rw [← e1];simp only;split <;> simp
 refine ⟨⟨?_,?_,?_⟩,?_⟩
 ·unfold nd
  rw [← e1];simp only;split
  ·intro x hx'
   rcases List.mem_or_eq_of_mem_set hx' with hm | rfl
   ·exact y1 x hm
   ·obtain ⟨x,hxe⟩:∃ x:Fin 256,d1.getD (n / 8) 0=(x.val:Int):=⟨⟨(d1.getD (n / 8) 0).toNat,by omega⟩,by simp only; omega⟩
    rw [hxe];exact or_range x ⟨n % 8,Nat.mod_lt _ (by omega)⟩
  ·exact y1
 ·rw [hl2,l1]
 ·intro i hi
  rw [hbt,if_neg (by omega)];exact h.rest i (by omega)
 ·unfold bl
  rw [List.range_succ,List.map_append]
  congr 1
  ·apply List.map_congr_left
   intro i hi;rw [hbt,if_neg (by have:=List.mem_range.1 hi; omega)]
  ·simp [hbt]
theorem sh_prog:∀ k:Fin 8,(128:Int).fdiv (2 ^ (min k.val 8))=2 ^ (7-k.val):=by decide +kernel
theorem sh_ref:∀ k:Fin 8,IntKind.u8.wrap (1 * (2 ^ (min (7-k.val) 8)))=2 ^ (7-k.val):=by decide +kernel
theorem Zke (n:Nat):((n:Int)).tmod 8=((n % 8:Nat):Int):=by rw [Int.tmod_eq_emod_of_nonneg (by omega)]; omega
theorem Zln (n:Nat):((n:Int)).tdiv 8=((n / 8:Nat):Int):=by rw [Int.tdiv_eq_ediv_of_nonneg (by omega)]; omega
theorem gD {β:Type} {d:List Int} {i:Nat} {f:Int→Option β} (h:i<d.length):(d[i]?).bind f=f (d.getD i 0):=by
 rw [Znl h];simp [List.getD_eq_getElem?_getD,h]
theorem ZnC {d:List Int} {n:Nat} (b:Bool) (h:VB d n) (hn:n≤2000000):X2 (d,(n:Int)) b=some (nd d n b,((n+1:Nat):Int)):=by
 have hlen:=h.len
 have hk1:∀ d1:List Int,n / 8<d1.length→Xu b (d,(n:Int)) d1=some (if b=true then d1.set (n / 8) (bits .or .u8 (d1.getD (n / 8) 0) (2 ^ (7-n % 8))) else d1,((n+1:Nat):Int)):=by
  intro d1 h1;have hs:=sh_prog ⟨n % 8,Nat.mod_lt _ (by omega)⟩;simp only at hs;cases b with
  | true =>
   simp only [Xu,XH,if_true,Zln,Zke,wI (n / 8) (by omega),wS (show n<9223372036854775807 by omega)];rw [XK h1,gD h1,Zg (by omega),show (((n % 8:Nat):Int)).toNat=n % 8 by omega,hs]
  | false=>simp only [Xu,XH,Bool.false_eq_true,if_false,wS (show n<9223372036854775807 by omega)]
 simp only [X2,Zke];unfold nd;by_cases h0:n % 8=0
 ·rw [if_pos (by omega),if_pos h0,Zg (by omega),hk1 _ (by simp; omega)]
 ·rw [if_neg (by omega),if_neg h0,hk1 _ (by omega)]
theorem ZlL {d:List Int} {n:Nat} (b:Bool) (h:VB d n) (hn:n≤2000000):Zco (d,(n:Int)) b=some (nd d n b,((n+1:Nat):Int)):=by
 have hlen:=h.len
 have hk1:∀ d1:List Int,n / 8<d1.length→ZaL b (d,(n:Int)) d1=some (if b=true then d1.set (n / 8) (bits .or .u8 (d1.getD (n / 8) 0) (2 ^ (7-n % 8))) else d1,((n+1:Nat):Int)):=by
  intro d1 h1;have hs:=sh_ref ⟨n % 8,Nat.mod_lt _ (by omega)⟩;simp only at hs;have e7:IntKind.i64.wrap (7-((n % 8:Nat):Int))=((7-n % 8:Nat):Int):=by rw [wi _ (by omega)]; omega
  cases b with
  | true =>
   simp only [ZaL,Zbv,if_true,Zln,Zke,wI (n / 8) (by omega),wS (show n<9223372036854775807 by omega),e7];rw [XK h1,gD h1,Zg (by omega),show (((7-n % 8:Nat):Int)).toNat=7-n % 8 by omega,hs]
  | false=>simp only [ZaL,Zbv,Bool.false_eq_true,if_false,wS (show n<9223372036854775807 by omega)]
 simp only [Zco,Zke];unfold nd;by_cases h0:n % 8=0
 ·rw [if_pos (by omega),if_pos h0,Zg (by omega),hk1 _ (by simp; omega)]
 ·rw [if_neg (by omega),if_neg h0,hk1 _ (by omega)]
end
end Go.Lc
