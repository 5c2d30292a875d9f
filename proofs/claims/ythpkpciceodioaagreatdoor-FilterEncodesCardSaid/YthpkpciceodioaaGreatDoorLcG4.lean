import Derived.Test.YthpkpciceodioaaGreatDoorLcG3
import Derived.Test.YthpkpciceodioaaGreatDoorLcG1
import Derived.KernelRfl
import Derived.Test.YthpkpciceodioaaGreatDoorLcG2
import Derived.Sort.AssemblyPlain
section
/- Transactions alone and with their coins: the program's tests and the reference's are the same; law 34,plans. -/
namespace Go.Lc
open Go.RowKit
open Go.Av
set_option linter.unusedVariables false

/-! sums -/
/-! points already seen -/
def seen (l : List Tapi_OutPoint) : List (Tapi_OutPoint×Bool):=l.foldl (fun m p=>mput p true m) []
/-! one transaction alone -/
section
variable {t : Tapi_Tx}
end
/-! coins -/
section
variable {l : List Tapi_Coin}
end
/-! plans -/
end Go.Lc
end
section
/- Replacement: signals and conflicts; law 36,signals. -/
namespace Go.Lc
open Go.RowKit
open Go.Av
set_option linter.unusedVariables false

section
variable {s t : Tapi_Tx}
end
end Go.Lc
end
section
/- SHA-256: the program's rounds and the reference's are the same. -/
namespace Go.Lc
open Go.RowKit
open Go.Av
set_option linter.unusedVariables false

theorem wrap_nn {k : IntKind} (h : k.signed = false) (x : Int) : 0≤k.wrap x:=by
 cases k <;> simp [IntKind.signed] at h <;> simp [IntKind.wrap,IntKind.signed,IntKind.bits] <;> omega
theorem bits_nn {k : IntKind} (h : k.signed = false) (op : BinOp) (x y : Int) : 0≤bits op k x y:=wrap_nn h _
def rot (x n : Int) : Int:=bits .or .u32 (IntKind.u32.wrap (x * (2 ^ (min (bits .and .u64 (IntKind.u64.wrap n) 31).toNat 32)))) (x.fdiv (2 ^ (min (IntKind.u64.wrap (32 - (bits .and .u64 (IntKind.u64.wrap n) 31))).toNat 32)))
theorem rot_eq (x n : Int) : Lmath_bits_RotateLeft32 x n = some (rot x n):=by
 have h1 : ¬ bits .and .u64 (IntKind.u64.wrap n) 31 < 0:=by have:=bits_nn (k:=.u64) rfl .and (IntKind.u64.wrap n) 31; omega
 have h2 : ¬ IntKind.u64.wrap (32 - bits .and .u64 (IntKind.u64.wrap n) 31) < 0:=by have:=wrap_nn (k:=.u64) rfl (32 - bits .and .u64 (IntKind.u64.wrap n) 31); omega
 unfold Lmath_bits_RotateLeft32;rw [chk_bind h1,chk_bind h2];rfl
def rr (x n : Int) : Int:=rot x (IntKind.i64.wrap (-n))
theorem rr_eq (x n : Int) : Lsha_rotr x n = some (rr x n):=by
 unfold Lsha_rotr;rw [rot_eq];rfl
theorem rrr_eq (x n : Int) : Lref03_rotr x n = some (rr x n):=by
 unfold Lref03_rotr;rw [rot_eq];rfl

/-! the words of a block -/
def wd (b : Arr 64) (i : Nat) : Nat→Int
 | 0=>0
 | j + 1=>bits .or .u32 (IntKind.u32.wrap (wd b i j * 256)) (IntKind.u32.wrap (b.at (4 * i + j)))
def sch1 (b : Arr 64) : Nat→Arr 64
 | 0=>zA 64
 | i + 1=>(sch1 b i).put i (wd b i 4)
theorem sch1_at (b : Arr 64) : ∀ (i j : Nat),i≤j→(sch1 b i).at j = 0
 | 0,j,_=>zA_at
 | i + 1,j,h=>by
  unfold sch1;rw [Arr.at_put_ne _ (by omega)];exact sch1_at b i j (by omega)
def nxtW (w : Arr 64) (i : Nat) : Int:=IntKind.u32.wrap ((IntKind.u32.wrap ((IntKind.u32.wrap ((w.at (i - 16)) + (bits .xor .u32 (bits .xor .u32 (rr (w.at (i - 15)) 7) (rr (w.at (i - 15)) 18)) ((w.at (i - 15)).fdiv 8)))) + (w.at (i - 7)))) + (bits .xor .u32 (bits .xor .u32 (rr (w.at (i - 2)) 17) (rr (w.at (i - 2)) 19)) ((w.at (i - 2)).fdiv 1024)))
def sch2 (w : Arr 64) : Nat→Arr 64
 | 0=>w
 | k + 1=>(sch2 w k).put (16 + k) (nxtW (sch2 w k) (16 + k))
def sched (b : Arr 64) : Arr 64:=sch2 (sch1 b 16) 48
theorem inA_at {n i : Nat} {z : Int} {β : Type} {f : Nat→Option β} (h : z = (i : Int)) (hi : i < n) : (inA n z).bind f = f i:=by
 subst h;exact inA_bind hi
theorem sch_k1 (w : Arr 64) : Lsha_schedule_k1 w = some (sch2 w 48):=by
 unfold Lsha_schedule_k1
 have:=runLoop_to (step:=Lsha_schedule_s2) (fun k=>(((16 + k : Nat) : Int),sch2 w k)) 48 (x:=some (sch2 w 48)) (fun k hk=>by
  simp only [Lsha_schedule_s2];rw [if_pos (by omega),inA_at (i:=16 + k - 15) (by rw [wi _ (by omega)]; omega) (by omega),rr_eq,bind_some',rr_eq,bind_some',inA_at (i:=16 + k - 2) (by rw [wi _ (by omega)]; omega) (by omega),rr_eq,bind_some',rr_eq,bind_some',inA_at (i:=16 + k - 16) (by rw [wi _ (by omega)]; omega) (by omega),inA_at (i:=16 + k - 7) (by rw [wi _ (by omega)]; omega) (by omega),inA_at (i:=16 + k) rfl (by omega),wi _ (by omega)];rfl) (by
  simp only [Lsha_schedule_s2];rw [if_neg (by omega)]
  rfl)
 exact this
theorem ref_k1 (w : Arr 64) : Lref03_schedule_k1 w = some (sch2 w 48):=by
 unfold Lref03_schedule_k1
 have:=runLoop_to (step:=Lref03_schedule_s2) (fun k=>(((16 + k : Nat) : Int),sch2 w k)) 48 (x:=some (sch2 w 48)) (fun k hk=>by
  simp only [Lref03_schedule_s2];rw [if_pos (by omega),inA_at (i:=16 + k - 15) (by rw [wi _ (by omega)]; omega) (by omega),rrr_eq,bind_some',rrr_eq,bind_some',inA_at (i:=16 + k - 2) (by rw [wi _ (by omega)]; omega) (by omega),rrr_eq,bind_some',rrr_eq,bind_some',inA_at (i:=16 + k - 16) (by rw [wi _ (by omega)]; omega) (by omega),inA_at (i:=16 + k - 7) (by rw [wi _ (by omega)]; omega) (by omega),inA_at (i:=16 + k) rfl (by omega),wi _ (by omega)];rfl) (by
  simp only [Lref03_schedule_s2];rw [if_neg (by omega)]
  rfl)
 exact this
theorem sched_eq (b : Arr 64) : Lsha_schedule b = some (sched b):=by
 unfold Lsha_schedule;refine runLoop_to (step:=Lsha_schedule_s1 b) (fun i=>((i : Int),sch1 b i)) 16 (x:=some (sched b)) (fun i hi=>?_) ?_
 ·simp only [Lsha_schedule_s1]
  rw [if_pos (by omega)]
  have h0 : sch1 b i = (sch1 b i).put i (wd b i 0):=by
   have:=Arr.put_at (sch1 b i) (i:=i) (by omega);rw [sch1_at b i i (Nat.le_refl _)] at this;exact this.symm
  have:=runLoop_to (step:=Lsha_schedule_s3 (i : Int) b) (fun j=>((j : Int),(sch1 b i).put i (wd b i j))) 4 (x:=some (.inl (((i + 1 : Nat) : Int),(sch1 b i).put i (wd b i 4)))) (fun j hj=>by
   simp only [Lsha_schedule_s3];rw [if_pos (by omega),inA_bind (by omega),inA_at (i:=4 * i + j) (by rw [wi (4 * (i : Int)) (by omega),wi _ (by omega)]; omega) (by omega),Arr.at_put _ (by omega),Arr.put_put,wi_succ hj (by omega)];rfl) (by
   simp only [Lsha_schedule_s3];rw [if_neg (by omega)]
   simp only [Lsha_schedule_k3,wi_succ hi (show (16 : Nat)≤9223372036854775807 by omega)])
  have e : runLoop (Lsha_schedule_s3 (i : Int) b) (0,sch1 b i) = _:=(congrArg (fun w=>runLoop (Lsha_schedule_s3 (i : Int) b) (0,w)) h0).trans this;rw [e];rfl
 ·simp only [Lsha_schedule_s1]
  rw [if_neg (by omega),sch_k1];rfl

/-! words as bit vectors -/
abbrev bv (x : Int) : BitVec 32:=BitVec.ofInt 32 x
theorem wrap_u32 (x : Int) : IntKind.u32.wrap x = x % 2 ^ 32:=by simp [IntKind.wrap,IntKind.signed,IntKind.bits]
theorem bv_wrap (x : Int) : bv (IntKind.u32.wrap x) = bv x:=by
 rw [wrap_u32];apply BitVec.eq_of_toNat_eq
 simp [BitVec.toNat_ofInt]
theorem bv_or (x y : Int) : bv (bits .or .u32 x y) = bv x ||| bv y:=by
 show bv (IntKind.u32.wrap ((bv x ||| bv y).toNat : Nat)) = _
 rw [bv_wrap];generalize bv x ||| bv y = r
 show BitVec.ofInt 32 (r.toNat : Int) = r
 rw [BitVec.ofInt_natCast,BitVec.ofNat_toNat];simp
theorem or_congr {x x' y y' : Int} (h1 : bv x = bv x') (h2 : bv y = bv y') : bits .or .u32 x y = bits .or .u32 x' y' := by
 show IntKind.u32.wrap ((bv x ||| bv y).toNat : Nat) = IntKind.u32.wrap ((bv x' ||| bv y').toNat : Nat)
 rw [h1,h2]
theorem bv_shl (x : Int) (k : Nat) (h : BitVec.ofInt 32 (2 ^ k) = BitVec.twoPow 32 k) : bv (x * 2 ^ k) = bv x <<< k:=by
 rw [BitVec.shiftLeft_eq_mul_twoPow,← h];exact BitVec.ofInt_mul _ _
def wr (b : Arr 64) (i : Nat) : Int:=bits .or .u32 (bits .or .u32 (bits .or .u32 (IntKind.u32.wrap ((IntKind.u32.wrap (b.at (4 * i))) * 16777216)) (IntKind.u32.wrap ((IntKind.u32.wrap (b.at (4 * i + 1))) * 65536))) (IntKind.u32.wrap ((IntKind.u32.wrap (b.at (4 * i + 2))) * 256))) (IntKind.u32.wrap (b.at (4 * i + 3)))
theorem wr_wd (b : Arr 64) (i : Nat) : wr b i = wd b i 4:=by
 unfold wr;simp only [wd];refine or_congr ?_ rfl;have e8 : ∀ x,bv (x * 256) = bv x <<< 8:=fun x=>bv_shl x 8 (by decide)
 have e16 : ∀ x,bv (x * 65536) = bv x <<< 16:=fun x=>bv_shl x 16 (by decide)
 have e24 : ∀ x,bv (x * 16777216) = bv x <<< 24:=fun x=>bv_shl x 24 (by decide)
 simp only [bv_or,bv_wrap,e8,e16,e24];have h0 : (bv 0) <<< 8 = 0#32:=by decide
 simp only [h0,BitVec.shiftLeft_or_distrib,← BitVec.shiftLeft_add,BitVec.zero_or,Nat.add_zero]
theorem rsched_eq (b : Arr 64) : Lref03_schedule b = some (sched b):=by
 unfold Lref03_schedule;refine runLoop_to (step:=Lref03_schedule_s1 b) (fun i=>((i : Int),sch1 b i)) 16 (x:=some (sched b)) (fun i hi=>?_) ?_
 ·simp only [Lref03_schedule_s1]
  rw [if_pos (by omega),wi (4 * (i : Int)) (by omega),wi (4 * (i : Int) + 1) (by omega),wi (4 * (i : Int) + 2) (by omega),wi (4 * (i : Int) + 3) (by omega),inA_at (i:=4 * i) (by omega) (by omega),inA_at (i:=4 * i + 1) (by omega) (by omega),inA_at (i:=4 * i + 2) (by omega) (by omega),inA_at (i:=4 * i + 3) (by omega) (by omega),inA_bind (by omega),wi_succ hi (by omega)];show some (Sum.inl (((i + 1 : Nat) : Int),(sch1 b i).put i (wr b i))) = _
  rw [wr_wd];rfl
 ·simp only [Lref03_schedule_s1]
  rw [if_neg (by omega),ref_k1];rfl
theorem consts : Lref03_constants = some shaK:=by
 unfold Lref03_constants
 kernel_rfl
theorem inits : Lref03_Initial = some shaInitial:=by
 unfold Lref03_Initial
 kernel_rfl

/-! rounds -/
abbrev St8:=Int×Int×Int×Int×Int×Int×Int×Int
abbrev ad (x y : Int) : Int:=IntKind.u32.wrap (x + y)
def t1 (s : St8) (k w : Int) : Int:=match s with
 | (a,b,c,d,e,f,g,h)=>ad (ad (ad (ad h (bits .xor .u32 (bits .xor .u32 (rr e 6) (rr e 11)) (rr e 25))) (bits .xor .u32 (bits .and .u32 e f) (bits .and .u32 (bits .xor .u32 4294967295 e) g))) k) w
def t2 (s : St8) : Int:=match s with
 | (a,b,c,d,e,f,g,h)=>ad (bits .xor .u32 (bits .xor .u32 (rr a 2) (rr a 13)) (rr a 22)) (bits .xor .u32 (bits .xor .u32 (bits .and .u32 a b) (bits .and .u32 a c)) (bits .and .u32 b c))
def rnd (s : St8) (k w : Int) : St8:=match s with
 | (a,b,c,d,e,f,g,h)=>(ad (t1 s k w) (t2 s),a,b,c,ad d (t1 s k w),e,f,g)
def rnds (w : Arr 64) (s : St8) : Nat→St8
 | 0=>s
 | i + 1=>rnd (rnds w s i) (shaK.at i) (w.at i)
def st0 (x : Arr 8) : St8:=(x.at 0,x.at 1,x.at 2,x.at 3,x.at 4,x.at 5,x.at 6,x.at 7)
noncomputable def comp (x : Arr 8) (b : Arr 64) : Arr 8:=match rnds (sched b) (st0 x) 64 with
 | (a,b,c,d,e,f,g,h)=>((((((((zA 8).put 0 (IntKind.u32.wrap ((x.at 0) + a))).put 1 (IntKind.u32.wrap ((x.at 1) + b))).put 2 (IntKind.u32.wrap ((x.at 2) + c))).put 3 (IntKind.u32.wrap ((x.at 3) + d))).put 4 (IntKind.u32.wrap ((x.at 4) + e))).put 5 (IntKind.u32.wrap ((x.at 5) + f))).put 6 (IntKind.u32.wrap ((x.at 6) + g))).put 7 (IntKind.u32.wrap ((x.at 7) + h))
def enc9 (s : St8) (i : Nat) : Int×Int×Int×Int×Int×Int×Int×Int×Int:=match s with
 | (a,b,c,d,e,f,g,h)=>(a,b,c,d,e,f,g,h,(i : Int))
theorem comp_eq (x : Arr 8) (b : Arr 64) : Lsha_Compress x b = some (comp x b):=by
 unfold Lsha_Compress;rw [sched_eq,bind_some'];refine runLoop_to (step:=Lsha_Compress_s1 (sched b) x) (fun i=>enc9 (rnds (sched b) (st0 x) i) i) 64 (x:=some (comp x b)) (fun i hi=>?_) ?_
 ·show _ = some (Sum.inl (enc9 (rnd (rnds (sched b) (st0 x) i) (shaK.at i) ((sched b).at i)) (i + 1)))
  obtain ⟨a,b',c,d,e,f,g,h⟩:=rnds (sched b) (st0 x) i;simp only [enc9,Lsha_Compress_s1];refine (if_pos (show (i : Int) < 64 by omega)).trans ?_;rw [rr_eq,bind_some',rr_eq,bind_some',rr_eq,bind_some',inA_bind hi,rr_eq,bind_some',rr_eq,bind_some',rr_eq,bind_some',wi_succ hi (by omega)];rfl
 ·unfold comp
  obtain ⟨a,b',c,d,e,f,g,h⟩:=rnds (sched b) (st0 x) 64;simp only [enc9,Lsha_Compress_s1];exact (if_neg (by decide)).trans rfl
theorem rcomp_eq (x : Arr 8) (b : Arr 64) : Lref03_Compress x b = some (comp x b):=by
 unfold Lref03_Compress;rw [rsched_eq,bind_some',consts,bind_some'];refine runLoop_to (step:=Lref03_Compress_s1 shaK (sched b) x) (fun i=>enc9 (rnds (sched b) (st0 x) i) i) 64 (x:=some (comp x b)) (fun i hi=>?_) ?_
 ·show _ = some (Sum.inl (enc9 (rnd (rnds (sched b) (st0 x) i) (shaK.at i) ((sched b).at i)) (i + 1)))
  obtain ⟨a,b',c,d,e,f,g,h⟩:=rnds (sched b) (st0 x) i;simp only [enc9,Lref03_Compress_s1];refine (if_pos (show (i : Int) < 64 by omega)).trans ?_;rw [rrr_eq,bind_some',rrr_eq,bind_some',rrr_eq,bind_some',inA_bind hi,rrr_eq,bind_some',rrr_eq,bind_some',rrr_eq,bind_some',wi_succ hi (by omega)];rfl
 ·unfold comp
  obtain ⟨a,b',c,d,e,f,g,h⟩:=rnds (sched b) (st0 x) 64;simp only [enc9,Lref03_Compress_s1];exact (if_neg (by decide)).trans rfl
end Go.Lc
end
section
/- SHA-256: padding and sums,the program's and the reference's. -/
namespace Go.Lc
open Go.RowKit
open Go.Av
set_option linter.unusedVariables false

def padN (n : Nat) : Nat:=(64 - (n + 9) % 64) % 64
def lenB (n : Nat) (j : Nat) : Int:=IntKind.u8.wrap ((IntKind.u64.wrap (8 * (n : Int))).fdiv (2 ^ (56 - 8 * j)))
def padS (n : Nat) : List Int:=(128 :: List.replicate (padN n) 0)++(List.range 8).map (lenB n)
theorem padS_len (n : Nat) : (padS n).length = 9 + padN n:=by simp [padS]; omega
theorem padN_lt (n : Nat) : padN n < 64:=Nat.mod_lt _ (by omega)
theorem tm {a b : Nat} : ((a : Int).tmod (b : Int)) = ((a % b : Nat) : Int):=rfl
theorem pad_p {n : Nat} (hn : n≤1000000000) : (IntKind.u64.wrap (64 - ((IntKind.u64.wrap ((n : Int) + 9)).tmod 64))).tmod 64 = (padN n : Int):=by
 have e1 : IntKind.u64.wrap ((n : Int) + 9) = ((n + 9 : Nat) : Int):=wu _ (by omega);have e2 : ((n + 9 : Nat) : Int).tmod 64 = (((n + 9) % 64 : Nat) : Int):=rfl;have h:=Nat.mod_lt (n + 9) (show 64 > 0 by omega);have e3 : IntKind.u64.wrap (64 - (((n + 9) % 64 : Nat) : Int)) = ((64 - (n + 9) % 64 : Nat) : Int):=by rw [wu _ (by omega)]; omega
 rw [e1,e2,e3];rfl
theorem sha_pad {n : Nat} (hn : n≤1000000000) : Lsha_Pad (n : Int) = some (padS n):=by
 have hp:=pad_p hn;have hl:=padN_lt n;unfold Lsha_Pad;rw [hp,wu (1 + (padN n : Int)) (by omega),wu (9 + (padN n : Int)) (by omega),chk_bind (by omega),chk_bind (by simp; omega)]
 have e0 : (List.replicate ((1 + (padN n : Int)).toNat) (0 : Int)).set 0 128 = 128 :: List.replicate (padN n) 0:=by
  rw [show (1 + (padN n : Int)).toNat = padN n + 1 by omega,List.replicate_succ];rfl
 rw [e0]
 have:=runLoop_to (step:=Lsha_Pad_s1 (n : Int)) (fun k=>((k : Int),(128 :: List.replicate (padN n) 0)++(List.range k).map (lenB n))) 8 (x:=some (padS n)) (fun k hk=>by
  simp only [Lsha_Pad_s1];rw [if_pos (by omega),wi (8 * (k : Int)) (by omega),wi (56 - 8 * (k : Int)) (by omega),chk_bind (by omega),chk_bind (by simp; omega),wi_succ hk (by omega)];have e : min (56 - 8 * (k : Int)).toNat 64 = 56 - 8 * k:=by omega
  rw [e,List.range_succ,List.map_append,← List.append_assoc];rfl) (by
  simp only [Lsha_Pad_s1];rw [if_neg (by omega)]
  rfl)
 simpa using this
theorem ref_pad1 {n : Nat} (hn : n≤1000000000) (b : List Int) (hb : b.length≤1000) : runLoop (Lref03_Pad_s2 (n : Int)) (7,b) = some (b++(List.range 8).map (lenB n)):=by
 have:=runLoop_to (step:=Lref03_Pad_s2 (n : Int)) (fun k=>(7 - (k : Int),b++(List.range k).map (lenB n))) 8 (x:=some (b++(List.range 8).map (lenB n))) (fun k hk=>by
  simp only [Lref03_Pad_s2];rw [if_pos (by omega),wi (8 * (7 - (k : Int))) (by omega),chk_bind (by omega),chk_bind (by simp; omega),wi (7 - (k : Int) - 1) (by omega)];have e : min (8 * (7 - (k : Int))).toNat 64 = 56 - 8 * k:=by omega
  rw [e,List.range_succ,List.map_append,← List.append_assoc,show 7 - (k : Int) - 1 = 7 - ((k + 1 : Nat) : Int) by omega];rfl) (by
  simp only [Lref03_Pad_s2];rw [if_neg (by omega)]
  rfl)
 simpa using this
theorem ref_pad {n : Nat} (hn : n≤1000000000) : Lref03_Pad (n : Int) = some (padS n):=by
 have hl:=padN_lt n;unfold Lref03_Pad
 have key : ∀ k,k≤padN n→(IntKind.u64.wrap ((IntKind.u64.wrap ((n : Int) + (IntKind.u64.wrap (((128 :: List.replicate k (0 : Int)).length : Nat) : Int)))) + 8)).tmod 64 = (((n + k + 9) % 64 : Nat) : Int):=by
  intro k hk;have e : (128 :: List.replicate k (0 : Int)).length = k + 1:=by simp
  rw [e,wu ((k + 1 : Nat) : Int) (by omega),wu ((n : Int) + ((k + 1 : Nat) : Int)) (by omega),wu _ (by omega),show ((n : Int) + ((k + 1 : Nat) : Int) + 8) = ((n + k + 9 : Nat) : Int) by omega];exact tm
 have:=runLoop_to (step:=Lref03_Pad_s1 (n : Int)) (fun k=>128 :: List.replicate k (0 : Int)) (padN n) (x:=some (padS n)) (fun k hk=>by
  simp only [Lref03_Pad_s1];rw [key k (by omega),if_pos,chk_bind (by simp; omega)]
  ·rw [List.cons_append,← List.replicate_succ']
  ·have : ¬ (n + k + 9) % 64 = 0:=by unfold padN at hk; omega
   omega) (by
  simp only [Lref03_Pad_s1];rw [key _ (Nat.le_refl _),if_neg]
  ·unfold Lref03_Pad_k1
   rw [ref_pad1 hn _ (by simp; omega)];rfl
  ·have : (n + padN n + 9) % 64 = 0:=by unfold padN; omega
   omega)
 simpa using this

/-! the blocks -/
def blk (y : List Int) (i : Nat) : Arr 64:=arOf 64 (y.drop (64 * i))
noncomputable def hsh (y : List Int) : Nat→Arr 8
 | 0=>shaInitial
 | i + 1=>comp (hsh y i) (blk y i)
theorem over_arOf {l : List Int} (h : 64≤l.length) : (zA 64).over l = arOf 64 l:=by
 unfold Arr.over arOf;rw [dif_pos h];have hz:=(zA 64).hl;have e : (zA 64).l.drop (min l.length 64) = []:=List.drop_eq_nil_of_le (by omega);simp only [e,List.append_nil]
def byt (h : Arr 8) (k : Nat) : Int:=IntKind.u8.wrap ((h.at (k / 4)).fdiv (2 ^ (24 - (k % 4) * 8)))
def putN (h : Arr 8) : Nat→Arr 32
 | 0=>zA 32
 | k + 1=>(putN h k).put k (byt h k)
theorem sha_out (h : Arr 8) : Lsha_Sum_k1 h = some (putN h 32):=by
 unfold Lsha_Sum_k1;refine runLoop_to (step:=Lsha_Sum_s2 h) (fun k=>((k : Int),putN h k)) 32 (x:=some (putN h 32)) (fun k hk=>?_) ?_
 ·simp only [Lsha_Sum_s2]
  have e4 : (k : Int).tmod 4 = ((k % 4 : Nat) : Int):=tm;have d4 : (k : Int).tdiv 4 = ((k / 4 : Nat) : Int):=rfl;rw [if_pos (by omega),e4,d4,wi (((k / 4 : Nat) : Int)) (by omega),wi (((k % 4 : Nat) : Int) * 8) (by omega),wi (24 - ((k % 4 : Nat) : Int) * 8) (by omega),inA_bind (by omega),chk_bind (by omega),inA_bind hk,wi_succ hk (by omega)];have e : min (24 - ((k % 4 : Nat) : Int) * 8).toNat 32 = 24 - (k % 4) * 8:=by omega
  rw [e];rfl
 ·simp only [Lsha_Sum_s2]
  rw [if_neg (by omega)];rfl
theorem ref_out (h : Arr 8) : Lref03_Sum_k1 h = some (putN h 32):=by
 unfold Lref03_Sum_k1;refine runLoop_to (step:=Lref03_Sum_s2 h) (fun i=>((i : Int),putN h (4 * i))) 8 (x:=some (putN h 32)) (fun i hi=>?_) ?_
 ·simp only [Lref03_Sum_s2]
  rw [if_pos (by omega),wi (4 * (i : Int)) (by omega),wi (4 * (i : Int) + 1) (by omega),wi (4 * (i : Int) + 2) (by omega),wi (4 * (i : Int) + 3) (by omega),inA_bind hi,inA_at (i:=4 * i) (by omega) (by omega),inA_at (i:=4 * i + 1) (by omega) (by omega),inA_at (i:=4 * i + 2) (by omega) (by omega),inA_at (i:=4 * i + 3) (by omega) (by omega),wi_succ hi (by omega)]
  have b0 : byt h (4 * i) = IntKind.u8.wrap ((h.at i).fdiv 16777216):=by
   unfold byt;rw [show 4 * i / 4 = i by omega,show 4 * i % 4 = 0 by omega];rfl
  have b1 : byt h (4 * i + 1) = IntKind.u8.wrap ((h.at i).fdiv 65536):=by
   unfold byt;rw [show (4 * i + 1) / 4 = i by omega,show (4 * i + 1) % 4 = 1 by omega];rfl
  have b2 : byt h (4 * i + 2) = IntKind.u8.wrap ((h.at i).fdiv 256):=by
   unfold byt;rw [show (4 * i + 2) / 4 = i by omega,show (4 * i + 2) % 4 = 2 by omega];rfl
  have b3 : byt h (4 * i + 3) = IntKind.u8.wrap (h.at i):=by
   unfold byt;rw [show (4 * i + 3) / 4 = i by omega,show (4 * i + 3) % 4 = 3 by omega];show IntKind.u8.wrap ((h.at i).fdiv 1) = _
   rw [Int.fdiv_one]
  rw [show 4 * (i + 1) = 4 * i + 3 + 1 by omega];simp only [putN];rw [b0,b1,b2,b3]
 ·simp only [Lref03_Sum_s2]
  rw [if_neg (by omega)];rfl
noncomputable def shaS (a : List Int) : Arr 32:=putN (hsh (a++padS a.length) ((a.length + (padS a.length).length) / 64)) 32
theorem total_len (n : Nat) : (n + (padS n).length) % 64 = 0:=by
 rw [padS_len];unfold padN;omega
theorem row_two {a b : List Int} (ha : a.length≤1000000000) (hb : b.length≤1000000000) : Lsha_row [a,b] = some (a++b):=by
 unfold Lsha_row
 rw [runLoop_step (s' := (1,a)) (by
  simp only [Lsha_row_s1];rw [if_pos (by simp),show (0 : Int) = ((0 : Nat) : Int) from rfl,idx_bind (by simp),chk_bind (by simp; omega)];simp [wi]),runLoop_step (s' := (2,a++b)) (by
  simp only [Lsha_row_s1];rw [if_pos (by simp),show (1 : Int) = ((1 : Nat) : Int) from rfl,idx_bind (by simp),chk_bind (by simp; omega)]
  simp [wi])]
 refine runLoop_exit ?_;simp only [Lsha_row_s1];rw [if_neg (by simp)];rfl
theorem sha_sum {a : List Int} (h : a.length≤100000000) : Lsha_Sum a = some (shaS a):=by
 have hp:=padS_len a.length;have hl:=padN_lt a.length;have ht:=total_len a.length;unfold Lsha_Sum;rw [wu _ (by omega),sha_pad (by omega),bind_some',row_two (by omega) (by omega),bind_some'];have hlen : (a++padS a.length).length = a.length + (padS a.length).length:=by simp
 have hd : ((a++padS a.length).length : Int).tdiv 64 = (((a.length + (padS a.length).length) / 64 : Nat) : Int):=by rw [hlen]; rfl
 refine runLoop_to (step:=Lsha_Sum_s1 (a++padS a.length)) (fun i=>((i : Int),hsh (a++padS a.length) i)) ((a.length + (padS a.length).length) / 64) (x:=some (shaS a)) (fun i hi=>?_) ?_
 ·simp only [Lsha_Sum_s1]
  rw [hd,wi (((a.length + (padS a.length).length) / 64 : Nat) : Int) (by omega),if_pos (by omega),wi (64 * (i : Int)) (by omega),chk_bind (by omega),chk_bind (by omega),show (64 * (i : Int)).toNat = 64 * i by omega,comp_eq,bind_some',wi_succ hi (by omega)];rfl
 ·simp only [Lsha_Sum_s1]
  rw [hd,wi (((a.length + (padS a.length).length) / 64 : Nat) : Int) (by omega),if_neg (by omega),sha_out];rfl
theorem ref_sha {a : List Int} (h : a.length≤100000000) : Lref03_Sum a = some (shaS a):=by
 have hp:=padS_len a.length;have hl:=padN_lt a.length;have ht:=total_len a.length;unfold Lref03_Sum;rw [chk_bind (by omega),wu _ (by omega),ref_pad (by omega),bind_some',chk_bind (by omega),inits,bind_some'];have hlen : (a++padS a.length).length = a.length + (padS a.length).length:=by simp
 refine runLoop_to (step:=Lref03_Sum_s1 a (padS a.length)) (fun i=>((64 * i : Int),hsh (a++padS a.length) i)) ((a.length + (padS a.length).length) / 64) (x:=some (shaS a)) (fun i hi=>?_) ?_
 ·simp only [Lref03_Sum_s1]
  rw [wi (64 * (i : Int) + 64) (by omega),if_pos (by omega),chk_bind (by omega),show (64 * (i : Int)).toNat = 64 * i by omega,over_arOf (by rw [List.length_drop]; omega),rcomp_eq,bind_some',show 64 * (i : Int) + 64 = 64 * ((i + 1 : Nat) : Int) by omega];rfl
 ·simp only [Lref03_Sum_s1]
  rw [wi _ (by omega),if_neg (by omega),ref_out];rfl
theorem dbl_eq {a : List Int} (h : a.length≤100000000) : Lsha_Double a = some (shaS (shaS a).l):=by
 have:=(shaS a).hl;unfold Lsha_Double;rw [sha_sum h,bind_some',sha_sum (by omega)];rfl
theorem rdbl_eq {a : List Int} (h : a.length≤100000000) : Lref03_Double a = some (shaS (shaS a).l):=by
 have:=(shaS a).hl;unfold Lref03_Double;rw [ref_sha h,bind_some',ref_sha (by omega)];rfl
end Go.Lc
end
section
/- SHA-256 by natural numbers: for the kernel. -/
namespace Go.Lc
open Go.RowKit
open Go.Av
set_option linter.unusedVariables false
set_option linter.unusedSimpArgs false
set_option maxRecDepth 100000

def Wd (x : Int) (n : Nat) : Prop:=x = (n : Int)∧n < 4294967296
noncomputable def aN (x y : Nat) : Nat:=Nat.mod (Nat.add x y) 4294967296
noncomputable def rN (k x : Nat) : Nat:=Nat.lor (Nat.mod (Nat.shiftLeft x (Nat.sub 32 k)) 4294967296) (Nat.shiftRight x k)
noncomputable def s0N (w : Nat) : Nat:=Nat.xor (Nat.xor (rN 7 w) (rN 18 w)) (Nat.shiftRight w 3)
noncomputable def s1N (w : Nat) : Nat:=Nat.xor (Nat.xor (rN 17 w) (rN 19 w)) (Nat.shiftRight w 10)
noncomputable def e1N (e : Nat) : Nat:=Nat.xor (Nat.xor (rN 6 e) (rN 11 e)) (rN 25 e)
noncomputable def e0N (a : Nat) : Nat:=Nat.xor (Nat.xor (rN 2 a) (rN 13 a)) (rN 22 a)
noncomputable def chN (e f g : Nat) : Nat:=Nat.xor (Nat.land e f) (Nat.land (Nat.xor 4294967295 e) g)
noncomputable def mjN (a b c : Nat) : Nat:=Nat.xor (Nat.xor (Nat.land a b) (Nat.land a c)) (Nat.land b c)
noncomputable def nxtN (w0 w1 w9 w14 : Nat) : Nat:=aN (aN (aN w0 (s0N w1)) w9) (s1N w14)
noncomputable def t1N (e f g h k w : Nat) : Nat:=aN (aN (aN (aN h (e1N e)) (chN e f g)) k) w
noncomputable def t2N (a b c : Nat) : Nat:=aN (e0N a) (mjN a b c)
theorem wd_wrap (n : Nat) : IntKind.u32.wrap (n : Int) = ((n % 4294967296 : Nat) : Int):=by
 rw [wrap_u32,show (2 : Int) ^ 32 = 4294967296 from rfl];omega
theorem ad_W {x y : Int} {n m : Nat} (h : Wd x n) (k : Wd y m) : Wd (ad x y) (aN n m):=by
 obtain ⟨rfl,h⟩:=h;obtain ⟨rfl,k⟩:=k;refine ⟨?_,Nat.mod_lt _ (by omega)⟩;show IntKind.u32.wrap ((n : Int) + (m : Int)) = (((n + m) % 4294967296 : Nat) : Int)
 rw [wrap_u32,show (2 : Int) ^ 32 = 4294967296 from rfl];omega
theorem bv_nat {n : Nat} (h : n < 4294967296) : (bv (n : Int)).toNat = n:=by
 show (BitVec.ofInt 32 (n : Int)).toNat = n
 rw [BitVec.ofInt_natCast,BitVec.toNat_ofNat];omega
theorem xor_W {x y : Int} {n m : Nat} (h : Wd x n) (k : Wd y m) : Wd (bits .xor .u32 x y) (Nat.xor n m):=by
 obtain ⟨rfl,h⟩:=h;obtain ⟨rfl,k⟩:=k;have lt : n ^^^ m < 2 ^ 32:=Nat.xor_lt_two_pow (by omega) (by omega);refine ⟨?_,lt⟩;show IntKind.u32.wrap ((bv (n : Int) ^^^ bv (m : Int)).toNat : Nat) = _
 rw [BitVec.toNat_xor,bv_nat h,bv_nat k,wd_wrap,Nat.mod_eq_of_lt (by omega)];rfl
theorem and_W {x y : Int} {n m : Nat} (h : Wd x n) (k : Wd y m) : Wd (bits .and .u32 x y) (Nat.land n m):=by
 obtain ⟨rfl,h⟩:=h;obtain ⟨rfl,k⟩:=k;have lt : n &&& m < 2 ^ 32:=Nat.and_lt_two_pow _ (by omega);refine ⟨?_,lt⟩;show IntKind.u32.wrap ((bv (n : Int) &&& bv (m : Int)).toNat : Nat) = _
 rw [BitVec.toNat_and,bv_nat h,bv_nat k,wd_wrap,Nat.mod_eq_of_lt (by omega)];rfl
theorem or_W {x y : Int} {n m : Nat} (h : Wd x n) (k : Wd y m) : Wd (bits .or .u32 x y) (Nat.lor n m):=by
 obtain ⟨rfl,h⟩:=h;obtain ⟨rfl,k⟩:=k;have lt : n ||| m < 2 ^ 32:=Nat.or_lt_two_pow (by omega) (by omega)
 refine ⟨?_,lt⟩;show IntKind.u32.wrap ((bv (n : Int) ||| bv (m : Int)).toNat : Nat) = _
 rw [BitVec.toNat_or,bv_nat h,bv_nat k,wd_wrap,Nat.mod_eq_of_lt (by omega)];rfl
theorem shr_N (n k : Nat) : ((n : Int)).fdiv ((2 ^ k : Nat) : Int) = ((Nat.shiftRight n k : Nat) : Int):=by
 rw [Int.fdiv_eq_ediv_of_nonneg _ (Int.natCast_nonneg _)];show ((n / 2 ^ k : Nat) : Int) = ((n >>> k : Nat) : Int)
 rw [Nat.shiftRight_eq_div_pow]
theorem shr_W {x c : Int} {n : Nat} (k : Nat) (hc : c = ((2 ^ k : Nat) : Int)) (h : Wd x n) : Wd (x.fdiv c) (Nat.shiftRight n k):=by
 obtain ⟨rfl,h⟩:=h;subst hc;refine ⟨shr_N n k,?_⟩;show n >>> k < 4294967296
 rw [Nat.shiftRight_eq_div_pow];exact Nat.lt_of_le_of_lt (Nat.div_le_self _ _) h
theorem shl_W {x : Int} {n : Nat} (j : Nat) (h : Wd x n) : Wd (IntKind.u32.wrap (x * 2 ^ j)) (Nat.mod (Nat.shiftLeft n j) 4294967296):=by
 obtain ⟨rfl,h⟩:=h;refine ⟨?_,Nat.mod_lt _ (by omega)⟩
 have e : (n : Int) * 2 ^ j = ((n <<< j : Nat) : Int):=by
  rw [Nat.shiftLeft_eq,Int.natCast_mul,Int.natCast_pow];rfl
 rw [e,wd_wrap];rfl
theorem rr_W {x ki : Int} {n : Nat} (k : Nat) (h1 : min (bits .and .u64 (IntKind.u64.wrap (IntKind.i64.wrap (-ki))) 31).toNat 32 = 32 - k) (h2 : min (IntKind.u64.wrap (32 - bits .and .u64 (IntKind.u64.wrap (IntKind.i64.wrap (-ki))) 31)).toNat 32 = k) (h : Wd x n) : Wd (rr x ki) (rN k n):=by
 unfold rr rot;rw [h1,h2];exact or_W (shl_W (32 - k) h) (shr_W k (by rw [Int.natCast_pow]; rfl) h)
theorem rr2 {x : Int} {n : Nat} (h : Wd x n) : Wd (rr x 2) (rN 2 n):=rr_W 2 (by kernel_rfl) (by kernel_rfl) h
theorem rr6 {x : Int} {n : Nat} (h : Wd x n) : Wd (rr x 6) (rN 6 n):=rr_W 6 (by kernel_rfl) (by kernel_rfl) h
theorem rr7 {x : Int} {n : Nat} (h : Wd x n) : Wd (rr x 7) (rN 7 n):=rr_W 7 (by kernel_rfl) (by kernel_rfl) h
theorem rr11 {x : Int} {n : Nat} (h : Wd x n) : Wd (rr x 11) (rN 11 n):=rr_W 11 (by kernel_rfl) (by kernel_rfl) h
theorem rr13 {x : Int} {n : Nat} (h : Wd x n) : Wd (rr x 13) (rN 13 n):=rr_W 13 (by kernel_rfl) (by kernel_rfl) h
theorem rr17 {x : Int} {n : Nat} (h : Wd x n) : Wd (rr x 17) (rN 17 n):=rr_W 17 (by kernel_rfl) (by kernel_rfl) h
theorem rr18 {x : Int} {n : Nat} (h : Wd x n) : Wd (rr x 18) (rN 18 n):=rr_W 18 (by kernel_rfl) (by kernel_rfl) h
theorem rr19 {x : Int} {n : Nat} (h : Wd x n) : Wd (rr x 19) (rN 19 n):=rr_W 19 (by kernel_rfl) (by kernel_rfl) h
theorem rr22 {x : Int} {n : Nat} (h : Wd x n) : Wd (rr x 22) (rN 22 n):=rr_W 22 (by kernel_rfl) (by kernel_rfl) h
theorem rr25 {x : Int} {n : Nat} (h : Wd x n) : Wd (rr x 25) (rN 25 n):=rr_W 25 (by kernel_rfl) (by kernel_rfl) h
theorem nxt_W {w : Arr 64} {i a b c d : Nat} (h0 : Wd (w.at (i - 16)) a) (h1 : Wd (w.at (i - 15)) b) (h9 : Wd (w.at (i - 7)) c) (h14 : Wd (w.at (i - 2)) d) : Wd (nxtW w i) (nxtN a b c d) :=
 ad_W (ad_W (ad_W h0 (xor_W (xor_W (rr7 h1) (rr18 h1)) (shr_W 3 rfl h1))) h9) (xor_W (xor_W (rr17 h14) (rr19 h14)) (shr_W 10 rfl h14))
def Sw (s : St8) (a b c d e f g h : Nat) : Prop:=Wd s.1 a∧Wd s.2.1 b∧Wd s.2.2.1 c∧Wd s.2.2.2.1 d∧Wd s.2.2.2.2.1 e∧Wd s.2.2.2.2.2.1 f∧Wd s.2.2.2.2.2.2.1 g∧Wd s.2.2.2.2.2.2.2 h
theorem rnd_W {s : St8} {a b c d e f g h kn wn : Nat} {k w : Int} (hs : Sw s a b c d e f g h) (hk : Wd k kn) (hw : Wd w wn) : Sw (rnd s k w) (aN (t1N e f g h kn wn) (t2N a b c)) a b c (aN d (t1N e f g h kn wn)) e f g:=by
 obtain ⟨x1,x2,x3,x4,x5,x6,x7,x8⟩:=s;obtain ⟨h1,h2,h3,h4,h5,h6,h7,h8⟩:=hs;have c1 : Wd (4294967295 : Int) 4294967295:=⟨rfl,by omega⟩
 have t1 : Wd (t1 (x1,x2,x3,x4,x5,x6,x7,x8) k w) (t1N e f g h kn wn):=ad_W (ad_W (ad_W (ad_W h8 (xor_W (xor_W (rr6 h5) (rr11 h5)) (rr25 h5))) (xor_W (and_W h5 h6) (and_W (xor_W c1 h5) h7))) hk) hw;have t2 : Wd (t2 (x1,x2,x3,x4,x5,x6,x7,x8)) (t2N a b c):=ad_W (xor_W (xor_W (rr2 h1) (rr13 h1)) (rr22 h1)) (xor_W (xor_W (and_W h1 h2) (and_W h1 h3)) (and_W h2 h3));exact ⟨ad_W t1 t2,h1,h2,h3,ad_W h4 t1,h5,h6,h7⟩
noncomputable def goN {β : Type} (q : Nat→Nat→Nat→Nat→Nat→Nat→Nat→Nat→β) (ks : List Nat) : Nat→Nat→Nat→Nat→Nat→Nat→Nat→Nat→Nat→Nat→Nat→Nat→Nat→Nat→Nat→Nat→Nat→Nat→Nat→Nat→Nat→Nat→Nat→Nat→β :=
 List.rec (motive:=fun _=>Nat→Nat→Nat→Nat→Nat→Nat→Nat→Nat→Nat→Nat→Nat→Nat→Nat→Nat→Nat→Nat→Nat→Nat→Nat→Nat→Nat→Nat→Nat→Nat→β) (fun _ _ _ _ _ _ _ _ _ _ _ _ _ _ _ _ a b c d e f g h=>q a b c d e f g h) (fun k _ ih w0 w1 w2 w3 w4 w5 w6 w7 w8 w9 w10 w11 w12 w13 w14 w15 a b c d e f g h=>forceN (t1N e f g h k w0) fun t=>forceN (aN t (t2N a b c)) fun a'=>forceN (aN d t) fun e'=>forceN (nxtN w0 w1 w9 w14) fun w=>ih w1 w2 w3 w4 w5 w6 w7 w8 w9 w10 w11 w12 w13 w14 w15 w a' a b c e' e f g) ks
theorem goN_cons {β : Type} (q : Nat→Nat→Nat→Nat→Nat→Nat→Nat→Nat→β) (k : Nat) (ks : List Nat) (w0 w1 w2 w3 w4 w5 w6 w7 w8 w9 w10 w11 w12 w13 w14 w15 a b c d e f g h : Nat) : goN q (k :: ks) w0 w1 w2 w3 w4 w5 w6 w7 w8 w9 w10 w11 w12 w13 w14 w15 a b c d e f g h = goN q ks w1 w2 w3 w4 w5 w6 w7 w8 w9 w10 w11 w12 w13 w14 w15 (nxtN w0 w1 w9 w14) (aN (t1N e f g h k w0) (t2N a b c)) a b c (aN d (t1N e f g h k w0)) e f g:=by
 show forceN (t1N e f g h k w0) (fun t=>forceN (aN t (t2N a b c)) fun a'=>forceN (aN d t) fun e'=>forceN (nxtN w0 w1 w9 w14) fun w=>goN q ks w1 w2 w3 w4 w5 w6 w7 w8 w9 w10 w11 w12 w13 w14 w15 w a' a b c e' e f g) = _
 rw [forceN_eq,forceN_eq,forceN_eq,forceN_eq]
theorem sch2_lt (w : Arr 64) {t : Nat} : ∀ {k k' : Nat},k'≤k→t < 16 + k'→(sch2 w k).at t = (sch2 w k').at t:=by
 intro k;induction k with
 | zero=>intro k' h _; rw [show k' = 0 by omega]
 | succ k ih =>
  intro k' h ht;by_cases e : k' = k + 1
  ·rw [e]
  ·show ((sch2 w k).put (16 + k) _).at t = _
   rw [Arr.at_put_ne _ (by omega)];exact ih (by omega) ht
theorem sched_hi (b : Arr 64) {t : Nat} (h : 16 + t < 64) : (sched b).at (16 + t) = nxtW (sch2 (sch1 b 16) t) (16 + t):=by
 unfold sched;rw [sch2_lt (k' := t + 1) _ (by omega) (by omega)];show ((sch2 (sch1 b 16) t).put (16 + t) _).at (16 + t) = _
 rw [Arr.at_put _ h]
theorem sched_lo (b : Arr 64) {t j : Nat} (h : j < 16 + t) (ht : t≤48) : (sch2 (sch1 b 16) t).at j = (sched b).at j:=(sch2_lt _ ht h).symm
theorem sch1_lt (b : Arr 64) {t : Nat} : ∀ {i : Nat},t < i→i≤64→(sch1 b i).at t = wd b t 4:=by
 intro i;induction i with
 | zero=>intro h _; omega
 | succ i ih =>
  intro h hi;by_cases e : t = i
  ·subst e
   exact Arr.at_put _ (by omega) _
  ·show ((sch1 b i).put i _).at t = _
   rw [Arr.at_put_ne _ (by omega)];exact ih (by omega) (by omega)
theorem sched_wd (b : Arr 64) {t : Nat} (h : t < 16) : (sched b).at t = wd b t 4:=by
 rw [← sched_lo b (t:=0) (by omega) (by omega)];exact sch1_lt b h (by omega)
theorem goN_ok {β : Type} (q : Nat→Nat→Nat→Nat→Nat→Nat→Nat→Nat→β) (bl : Arr 64) (st : St8) : ∀ (ks : List Nat) (i : Nat),i + ks.length = 64→(∀ j,j < ks.length→Wd (shaK.at (i + j)) (ks.getD j 0))→∀ (w0 w1 w2 w3 w4 w5 w6 w7 w8 w9 w10 w11 w12 w13 w14 w15 a b c d e f g h : Nat),(∀ j,j < 16→i + j < 64→Wd ((sched bl).at (i + j)) ([w0,w1,w2,w3,w4,w5,w6,w7,w8,w9,w10,w11,w12,w13,w14,w15].getD j 0))→Sw (rnds (sched bl) st i) a b c d e f g h →
  ∃ a' b' c' d' e' f' g' h',goN q ks w0 w1 w2 w3 w4 w5 w6 w7 w8 w9 w10 w11 w12 w13 w14 w15 a b c d e f g h = q a' b' c' d' e' f' g' h'∧Sw (rnds (sched bl) st 64) a' b' c' d' e' f' g' h' := by
 intro ks;induction ks with
 | nil =>
  intro i hi _ w0 w1 w2 w3 w4 w5 w6 w7 w8 w9 w10 w11 w12 w13 w14 w15 a b c d e f g h _ hs;obtain rfl : i = 64:=by simpa using hi
  exact ⟨_,_,_,_,_,_,_,_,rfl,hs⟩
 | cons k ks ih =>
  intro i hi hk w0 w1 w2 w3 w4 w5 w6 w7 w8 w9 w10 w11 w12 w13 w14 w15 a b c d e f g h hw hs;rw [List.length_cons] at hi;rw [goN_cons];have k0 : Wd (shaK.at i) k:=hk 0 (by simp);have w0' : Wd ((sched bl).at i) w0:=hw 0 (by omega) (by omega);refine ih (i + 1) (by omega) (fun j hj=>?_) w1 w2 w3 w4 w5 w6 w7 w8 w9 w10 w11 w12 w13 w14 w15 _ _ _ _ _ _ _ _ _ (fun j hj hij=>?_) (rnd_W hs k0 w0')
  ·have:=hk (j + 1) (by simpa using hj)
   rw [show i + 1 + j = i + (j + 1) by omega];exact this
  ·by_cases e : j = 15
   ·subst e
    show Wd _ (nxtN w0 w1 w9 w14)
    rw [show i + 1 + 15 = 16 + i by omega,sched_hi bl (by omega)];refine nxt_W ?_ ?_ ?_ ?_
    ·rw [show 16 + i - 16 = i by omega,sched_lo bl (by omega) (by omega)]
     exact w0'
    ·rw [show 16 + i - 15 = i + 1 by omega,sched_lo bl (by omega) (by omega)]
     exact hw 1 (by omega) (by omega)
    ·rw [show 16 + i - 7 = i + 9 by omega,sched_lo bl (by omega) (by omega)]
     exact hw 9 (by omega) (by omega)
    ·rw [show 16 + i - 2 = i + 14 by omega,sched_lo bl (by omega) (by omega)]
     exact hw 14 (by omega) (by omega)
   ·have:=hw (j + 1) (by omega) (by omega)
    rw [show i + 1 + j = i + (j + 1) by omega]
    have e2 : ([w1,w2,w3,w4,w5,w6,w7,w8,w9,w10,w11,w12,w13,w14,w15]++[nxtN w0 w1 w9 w14]).getD j 0 = [w1,w2,w3,w4,w5,w6,w7,w8,w9,w10,w11,w12,w13,w14,w15].getD j 0:=by
     simp only [List.getD_eq_getElem?_getD];rw [List.getElem?_append_left (by simp; omega)]
    show Wd _ (([w1,w2,w3,w4,w5,w6,w7,w8,w9,w10,w11,w12,w13,w14,w15]++[nxtN w0 w1 w9 w14]).getD j 0)
    rw [e2];exact this
/-! blocks -/
noncomputable def getN (y : List Nat) : Nat→Nat:=List.rec (motive:=fun _=>Nat→Nat) (fun _=>0) (fun a _ ih q=>Nat.rec (motive:=fun _=>Nat) a (fun m _=>ih m) q) y
theorem getN_eq (y : List Nat) : ∀ q,getN y q = y.getD q 0:=by
 induction y with
 | nil=>intro q; simp [getN]
 | cons a y ih =>
  intro q;cases q with
  | zero=>rfl
  | succ q =>
   show getN y q = _
   rw [ih];simp
noncomputable def wdN (x y : Nat) : Nat:=Nat.lor (Nat.mod (Nat.mul x 256) 4294967296) (Nat.mod y 4294967296)
noncomputable def wordN (y : List Nat) (p : Nat) : Nat:=wdN (wdN (wdN (wdN 0 (getN y p)) (getN y (Nat.add p 1))) (getN y (Nat.add p 2))) (getN y (Nat.add p 3))
theorem wdN_W {x z : Int} {n m : Nat} (h : Wd x n) (k : z = (m : Int)) : Wd (bits .or .u32 (IntKind.u32.wrap (x * 256)) (IntKind.u32.wrap z)) (wdN n m):=by
 obtain ⟨rfl,h⟩:=h;subst k;refine or_W ⟨?_,Nat.mod_lt _ (by omega)⟩ ⟨wd_wrap m,Nat.mod_lt _ (by omega)⟩;rw [show (n : Int) * 256 = ((n * 256 : Nat) : Int) by omega,wd_wrap];rfl
theorem word_W {bl : Arr 64} {y : List Nat} {p i : Nat} (h : ∀ j,j < 64→bl.at j = ((y.getD (p + j) 0 : Nat) : Int)) (hi : i < 16) : Wd (wd bl i 4) (wordN y (p + 4 * i)):=by
 have z : Wd (0 : Int) 0:=⟨rfl,by omega⟩
 have g : ∀ j,j < 4→bl.at (4 * i + j) = ((getN y (p + 4 * i + j) : Nat) : Int):=fun j hj=>by
  rw [h _ (by omega),getN_eq,Nat.add_assoc]
 exact wdN_W (wdN_W (wdN_W (wdN_W z (g 0 (by omega))) (g 1 (by omega))) (g 2 (by omega))) (g 3 (by omega))
noncomputable def kN : List Nat:=[1116352408,1899447441,3049323471,3921009573,961987163,1508970993,2453635748,2870763221,3624381080,310598401,607225278,1426881987,1925078388,2162078206,2614888103,3248222580,3835390401,4022224774,264347078,604807628,770255983,1249150122,1555081692,1996064986,2554220882,2821834349,2952996808,3210313671,3336571891,3584528711,113926993,338241895,666307205,773529912,1294757372,1396182291,1695183700,1986661051,2177026350,2456956037,2730485921,2820302411,3259730800,3345764771,3516065817,3600352804,4094571909,275423344,430227734,506948616,659060556,883997877,958139571,1322822218,1537002063,1747873779,1955562222,2024104815,2227730452,2361852424,2428436474,2756734187,3204031479,3329325298]
theorem kN_ok : shaK.l = kN.map Int.ofNat∧kN.all (fun n=>decide (n < 4294967296)) = true:=by constructor <;> kernel_rfl
theorem kN_W {j : Nat} (h : j < 64) : Wd (shaK.at j) (kN.getD j 0):=by
 have hl : kN.length = 64:=rfl
 have e : shaK.at j = ((kN.getD j 0 : Nat) : Int):=by
  unfold Arr.at;rw [kN_ok.1];simp only [List.getD_eq_getElem?_getD,List.getElem?_map];rw [List.getElem?_eq_getElem (by omega)];rfl
 refine ⟨e,?_⟩
 have:=List.all_eq_true.1 kN_ok.2 (kN.getD j 0) (by
  simp only [List.getD_eq_getElem?_getD];rw [List.getElem?_eq_getElem (by omega)]
  exact List.getElem_mem _)
 simpa using this
noncomputable def blksN (y : List Nat) (n : Nat) : Nat→Nat→Nat→Nat→Nat→Nat→Nat→Nat→Nat→List Nat :=
 Nat.rec (motive:=fun _=>Nat→Nat→Nat→Nat→Nat→Nat→Nat→Nat→Nat→List Nat) (fun _ a b c d e f g h=>[a,b,c,d,e,f,g,h]) (fun _ ih p a b c d e f g h=>forceN (wordN y (Nat.add p 0)) fun w0=>forceN (wordN y (Nat.add p 4)) fun w1=>forceN (wordN y (Nat.add p 8)) fun w2=>forceN (wordN y (Nat.add p 12)) fun w3=>forceN (wordN y (Nat.add p 16)) fun w4=>forceN (wordN y (Nat.add p 20)) fun w5=>forceN (wordN y (Nat.add p 24)) fun w6=>forceN (wordN y (Nat.add p 28)) fun w7=>forceN (wordN y (Nat.add p 32)) fun w8=>forceN (wordN y (Nat.add p 36)) fun w9=>forceN (wordN y (Nat.add p 40)) fun w10=>forceN (wordN y (Nat.add p 44)) fun w11=>forceN (wordN y (Nat.add p 48)) fun w12=>forceN (wordN y (Nat.add p 52)) fun w13=>forceN (wordN y (Nat.add p 56)) fun w14=>forceN (wordN y (Nat.add p 60)) fun w15=>goN (fun a' b' c' d' e' f' g' h'=>forceN (aN a a') fun a''=>forceN (aN b b') fun b''=>forceN (aN c c') fun c''=>forceN (aN d d') fun d''=>forceN (aN e e') fun e''=>forceN (aN f f') fun f''=>forceN (aN g g') fun g''=>forceN (aN h h') fun h''=>forceN (Nat.add p 64) fun p=>ih p a'' b'' c'' d'' e'' f'' g'' h'') kN w0 w1 w2 w3 w4 w5 w6 w7 w8 w9 w10 w11 w12 w13 w14 w15 a b c d e f g h) n
def A8 (x : Arr 8) (a b c d e f g h : Nat) : Prop:=Sw (st0 x) a b c d e f g h
theorem comp_W {x : Arr 8} {bl : Arr 64} {a b c d e f g h a' b' c' d' e' f' g' h' : Nat} (hx : A8 x a b c d e f g h) (hs : Sw (rnds (sched bl) (st0 x) 64) a' b' c' d' e' f' g' h') : A8 (comp x bl) (aN a a') (aN b b') (aN c c') (aN d d') (aN e e') (aN f f') (aN g g') (aN h h'):=by
 unfold comp A8;generalize rnds (sched bl) (st0 x) 64 = r at hs ⊢;obtain ⟨y1,y2,y3,y4,y5,y6,y7,y8⟩:=r;obtain ⟨h1,h2,h3,h4,h5,h6,h7,h8⟩:=hs;obtain ⟨k1,k2,k3,k4,k5,k6,k7,k8⟩:=hx;try dsimp only at h1 h2 h3 h4 h5 h6 h7 h8
 refine ⟨?_,?_,?_,?_,?_,?_,?_,?_⟩
 ·show Wd ((((((((((zA 8).put 0 (ad (x.at 0) y1)).put 1 (ad (x.at 1) y2)).put 2 (ad (x.at 2) y3)).put 3 (ad (x.at 3) y4)).put 4 (ad (x.at 4) y5)).put 5 (ad (x.at 5) y6)).put 6 (ad (x.at 6) y7)).put 7 (ad (x.at 7) y8)).at 0) _
  rw [Arr.at_put_ne _ (by omega),Arr.at_put_ne _ (by omega),Arr.at_put_ne _ (by omega),Arr.at_put_ne _ (by omega),Arr.at_put_ne _ (by omega),Arr.at_put_ne _ (by omega),Arr.at_put_ne _ (by omega),Arr.at_put _ (by omega)];exact ad_W k1 h1
 ·show Wd ((((((((((zA 8).put 0 (ad (x.at 0) y1)).put 1 (ad (x.at 1) y2)).put 2 (ad (x.at 2) y3)).put 3 (ad (x.at 3) y4)).put 4 (ad (x.at 4) y5)).put 5 (ad (x.at 5) y6)).put 6 (ad (x.at 6) y7)).put 7 (ad (x.at 7) y8)).at 1) _
  rw [Arr.at_put_ne _ (by omega),Arr.at_put_ne _ (by omega),Arr.at_put_ne _ (by omega),Arr.at_put_ne _ (by omega),Arr.at_put_ne _ (by omega),Arr.at_put_ne _ (by omega),Arr.at_put _ (by omega)];exact ad_W k2 h2
 ·show Wd ((((((((((zA 8).put 0 (ad (x.at 0) y1)).put 1 (ad (x.at 1) y2)).put 2 (ad (x.at 2) y3)).put 3 (ad (x.at 3) y4)).put 4 (ad (x.at 4) y5)).put 5 (ad (x.at 5) y6)).put 6 (ad (x.at 6) y7)).put 7 (ad (x.at 7) y8)).at 2) _
  rw [Arr.at_put_ne _ (by omega),Arr.at_put_ne _ (by omega),Arr.at_put_ne _ (by omega),Arr.at_put_ne _ (by omega),Arr.at_put_ne _ (by omega),Arr.at_put _ (by omega)];exact ad_W k3 h3
 ·show Wd ((((((((((zA 8).put 0 (ad (x.at 0) y1)).put 1 (ad (x.at 1) y2)).put 2 (ad (x.at 2) y3)).put 3 (ad (x.at 3) y4)).put 4 (ad (x.at 4) y5)).put 5 (ad (x.at 5) y6)).put 6 (ad (x.at 6) y7)).put 7 (ad (x.at 7) y8)).at 3) _
  rw [Arr.at_put_ne _ (by omega),Arr.at_put_ne _ (by omega),Arr.at_put_ne _ (by omega),Arr.at_put_ne _ (by omega),Arr.at_put _ (by omega)];exact ad_W k4 h4
 ·show Wd ((((((((((zA 8).put 0 (ad (x.at 0) y1)).put 1 (ad (x.at 1) y2)).put 2 (ad (x.at 2) y3)).put 3 (ad (x.at 3) y4)).put 4 (ad (x.at 4) y5)).put 5 (ad (x.at 5) y6)).put 6 (ad (x.at 6) y7)).put 7 (ad (x.at 7) y8)).at 4) _
  rw [Arr.at_put_ne _ (by omega),Arr.at_put_ne _ (by omega),Arr.at_put_ne _ (by omega),Arr.at_put _ (by omega)];exact ad_W k5 h5
 ·show Wd ((((((((((zA 8).put 0 (ad (x.at 0) y1)).put 1 (ad (x.at 1) y2)).put 2 (ad (x.at 2) y3)).put 3 (ad (x.at 3) y4)).put 4 (ad (x.at 4) y5)).put 5 (ad (x.at 5) y6)).put 6 (ad (x.at 6) y7)).put 7 (ad (x.at 7) y8)).at 5) _
  rw [Arr.at_put_ne _ (by omega),Arr.at_put_ne _ (by omega),Arr.at_put _ (by omega)];exact ad_W k6 h6
 ·show Wd ((((((((((zA 8).put 0 (ad (x.at 0) y1)).put 1 (ad (x.at 1) y2)).put 2 (ad (x.at 2) y3)).put 3 (ad (x.at 3) y4)).put 4 (ad (x.at 4) y5)).put 5 (ad (x.at 5) y6)).put 6 (ad (x.at 6) y7)).put 7 (ad (x.at 7) y8)).at 6) _
  rw [Arr.at_put_ne _ (by omega),Arr.at_put _ (by omega)];exact ad_W k7 h7
 ·show Wd ((((((((((zA 8).put 0 (ad (x.at 0) y1)).put 1 (ad (x.at 1) y2)).put 2 (ad (x.at 2) y3)).put 3 (ad (x.at 3) y4)).put 4 (ad (x.at 4) y5)).put 5 (ad (x.at 5) y6)).put 6 (ad (x.at 6) y7)).put 7 (ad (x.at 7) y8)).at 7) _
  rw [Arr.at_put _ (by omega)];exact ad_W k8 h8
theorem blksN_succ (y : List Nat) (n p a b c d e f g h : Nat) : blksN y (n + 1) p a b c d e f g h = (forceN (wordN y (Nat.add p 0)) fun w0=>forceN (wordN y (Nat.add p 4)) fun w1=>forceN (wordN y (Nat.add p 8)) fun w2=>forceN (wordN y (Nat.add p 12)) fun w3=>forceN (wordN y (Nat.add p 16)) fun w4=>forceN (wordN y (Nat.add p 20)) fun w5=>forceN (wordN y (Nat.add p 24)) fun w6=>forceN (wordN y (Nat.add p 28)) fun w7=>forceN (wordN y (Nat.add p 32)) fun w8=>forceN (wordN y (Nat.add p 36)) fun w9=>forceN (wordN y (Nat.add p 40)) fun w10=>forceN (wordN y (Nat.add p 44)) fun w11=>forceN (wordN y (Nat.add p 48)) fun w12=>forceN (wordN y (Nat.add p 52)) fun w13=>forceN (wordN y (Nat.add p 56)) fun w14=>forceN (wordN y (Nat.add p 60)) fun w15=>goN (fun a' b' c' d' e' f' g' h'=>forceN (aN a a') fun a''=>forceN (aN b b') fun b''=>forceN (aN c c') fun c''=>forceN (aN d d') fun d''=>forceN (aN e e') fun e''=>forceN (aN f f') fun f''=>forceN (aN g g') fun g''=>forceN (aN h h') fun h''=>forceN (Nat.add p 64) fun p=>blksN y n p a'' b'' c'' d'' e'' f'' g'' h'') kN w0 w1 w2 w3 w4 w5 w6 w7 w8 w9 w10 w11 w12 w13 w14 w15 a b c d e f g h):=rfl
theorem blksN_ok {y : List Int} {yN : List Nat} {N : Nat} (hl : y.length = 64 * N) (hy : y = yN.map Int.ofNat) : ∀ (n i : Nat),i + n = N→∀ (a b c d e f g h : Nat),A8 (hsh y i) a b c d e f g h→∃ a' b' c' d' e' f' g' h',blksN yN n (64 * i) a b c d e f g h = [a',b',c',d',e',f',g',h']∧A8 (hsh y N) a' b' c' d' e' f' g' h' := by
 intro n;induction n with
 | zero =>
  intro i hi a b c d e f g h hs;obtain rfl : i = N:=by omega
  exact ⟨_,_,_,_,_,_,_,_,rfl,hs⟩
 | succ n ih =>
  intro i hi a b c d e f g h hs
  have hb : ∀ j,j < 64→(blk y i).at j = ((yN.getD (64 * i + j) 0 : Nat) : Int):=fun j hj=>by
   have hll : 64≤(y.drop (64 * i)).length:=by rw [List.length_drop]; omega
   have hN : yN.length = y.length:=by rw [hy]; simp
   unfold blk arOf;rw [dif_pos hll];unfold Arr.at;simp only [List.getD_eq_getElem?_getD];rw [List.getElem?_take_of_lt hj,List.getElem?_drop,hy,List.getElem?_map,List.getElem?_eq_getElem (by omega)];rfl
  obtain ⟨a',b',c',d',e',f',g',h',g1,g2⟩:=goN_ok (fun a' b' c' d' e' f' g' h'=>forceN (aN a a') fun a''=>forceN (aN b b') fun b''=>forceN (aN c c') fun c''=>forceN (aN d d') fun d''=>forceN (aN e e') fun e''=>forceN (aN f f') fun f''=>forceN (aN g g') fun g''=>forceN (aN h h') fun h''=>forceN (Nat.add (64 * i) 64) fun p=>blksN yN n p a'' b'' c'' d'' e'' f'' g'' h'') (blk y i) (st0 (hsh y i)) kN 0 rfl (fun j hj=>by rw [Nat.zero_add]; exact kN_W hj) (wordN yN (64 * i + 0)) (wordN yN (64 * i + 4)) (wordN yN (64 * i + 8)) (wordN yN (64 * i + 12)) (wordN yN (64 * i + 16)) (wordN yN (64 * i + 20)) (wordN yN (64 * i + 24)) (wordN yN (64 * i + 28)) (wordN yN (64 * i + 32)) (wordN yN (64 * i + 36)) (wordN yN (64 * i + 40)) (wordN yN (64 * i + 44)) (wordN yN (64 * i + 48)) (wordN yN (64 * i + 52)) (wordN yN (64 * i + 56)) (wordN yN (64 * i + 60)) a b c d e f g h (fun j hj _=>by
   rw [Nat.zero_add,sched_wd _ hj];have:=word_W (p:=64 * i) hb hj
   have e : [wordN yN (64 * i + 0),wordN yN (64 * i + 4),wordN yN (64 * i + 8),wordN yN (64 * i + 12),wordN yN (64 * i + 16),wordN yN (64 * i + 20),wordN yN (64 * i + 24),wordN yN (64 * i + 28),wordN yN (64 * i + 32),wordN yN (64 * i + 36),wordN yN (64 * i + 40),wordN yN (64 * i + 44),wordN yN (64 * i + 48),wordN yN (64 * i + 52),wordN yN (64 * i + 56),wordN yN (64 * i + 60)].getD j 0 = wordN yN (64 * i + 4 * j):=by
    rcases (show j = 0∨j = 1∨j = 2∨j = 3∨j = 4∨j = 5∨j = 6∨j = 7∨j = 8∨j = 9∨j = 10∨j = 11∨j = 12∨j = 13∨j = 14∨j = 15 by omega) with rfl | rfl | rfl | rfl | rfl | rfl | rfl | rfl | rfl | rfl | rfl | rfl | rfl | rfl | rfl | rfl <;> rfl
   rw [e]
   exact this) hs
  have hc:=comp_W hs g2;obtain ⟨a2,b2,c2,d2,e2,f2,g2',h2,r1,r2⟩:=ih (i + 1) (by omega) _ _ _ _ _ _ _ _ hc;refine ⟨a2,b2,c2,d2,e2,f2,g2',h2,?_,r2⟩;rw [← r1,blksN_succ];refine (forceN_eq _ _).trans ?_;refine (forceN_eq _ _).trans ?_;refine (forceN_eq _ _).trans ?_;refine (forceN_eq _ _).trans ?_;refine (forceN_eq _ _).trans ?_;refine (forceN_eq _ _).trans ?_;refine (forceN_eq _ _).trans ?_;refine (forceN_eq _ _).trans ?_;refine (forceN_eq _ _).trans ?_;refine (forceN_eq _ _).trans ?_;refine (forceN_eq _ _).trans ?_;refine (forceN_eq _ _).trans ?_;refine (forceN_eq _ _).trans ?_;refine (forceN_eq _ _).trans ?_;refine (forceN_eq _ _).trans ?_;refine (forceN_eq _ _).trans ?_;refine Eq.trans g1 ?_;refine (forceN_eq _ _).trans ?_;refine (forceN_eq _ _).trans ?_;refine (forceN_eq _ _).trans ?_;refine (forceN_eq _ _).trans ?_;refine (forceN_eq _ _).trans ?_;refine (forceN_eq _ _).trans ?_;refine (forceN_eq _ _).trans ?_;refine (forceN_eq _ _).trans ?_;exact forceN_eq _ _
/-! the whole -/
noncomputable def outN (s : List Nat) : Arr 32:=⟨(List.range 32).map fun k=>Int.ofNat (Nat.mod (Nat.shiftRight (getN s (Nat.div k 4)) (Nat.sub 24 (Nat.mul (Nat.mod k 4) 8))) 256),by simp⟩
theorem putN_at (x : Arr 8) {k : Nat} : ∀ {n : Nat},k < n→n≤32→(putN x n).at k = byt x k:=by
 intro n;induction n with
 | zero=>intro h _; omega
 | succ n ih =>
  intro h hn;show ((putN x n).put n _).at k = _
  by_cases e : k = n
  ·subst e
   exact Arr.at_put _ (by omega) _
  ·rw [Arr.at_put_ne _ (by omega)]
   exact ih (by omega) (by omega)
theorem outN_ok {x : Arr 8} {a b c d e f g h : Nat} (hx : A8 x a b c d e f g h) : outN [a,b,c,d,e,f,g,h] = putN x 32:=by
 apply Arr.ext
 intro k hk;rw [putN_at x hk (by omega)]
 have hw : Wd (x.at (k / 4)) (getN [a,b,c,d,e,f,g,h] (k / 4)):=by
  obtain ⟨h1,h2,h3,h4,h5,h6,h7,h8⟩:=hx;rcases (show k / 4 = 0∨k / 4 = 1∨k / 4 = 2∨k / 4 = 3∨k / 4 = 4∨k / 4 = 5∨k / 4 = 6∨k / 4 = 7 by omega) with h | h | h | h | h | h | h | h <;> rw [h]
  ·exact h1
  ·exact h2
  ·exact h3
  ·exact h4
  ·exact h5
  ·exact h6
  ·exact h7
  ·exact h8
 obtain ⟨ew,_⟩:=hw
 have e2 : (outN [a,b,c,d,e,f,g,h]).at k = Int.ofNat (Nat.mod (Nat.shiftRight (getN [a,b,c,d,e,f,g,h] (Nat.div k 4)) (Nat.sub 24 (Nat.mul (Nat.mod k 4) 8))) 256):=by
  unfold Arr.at outN;simp only [List.getD_eq_getElem?_getD,List.getElem?_map];rw [List.getElem?_range hk];rfl
 rw [e2];unfold byt;rw [ew,show (2 : Int) ^ (24 - k % 4 * 8) = ((2 ^ (24 - k % 4 * 8) : Nat) : Int) by rw [Int.natCast_pow]; rfl,shr_N]
 have u8 : ∀ m : Nat,IntKind.u8.wrap (m : Int) = ((m % 256 : Nat) : Int):=fun m=>by
  simp [IntKind.wrap,IntKind.signed,IntKind.bits]
 rw [u8];rfl
noncomputable def toN (l : List Int) : List Nat:=l.map Int.toNat
noncomputable def okN8 (l : List Int) : Bool:=l.all fun x=>Int.rec (motive:=fun _=>Bool) (fun n=>Nat.ble n 255) (fun _=>false) x
theorem okN8_map {l : List Int} (h : okN8 l = true) : l = (toN l).map Int.ofNat:=by
 induction l with
 | nil=>rfl
 | cons x l ih =>
  unfold okN8 at h;rw [List.all_cons,Bool.and_eq_true] at h;have:=ih h.2;cases x with
  | ofNat n =>
   show Int.ofNat n :: l = Int.ofNat n :: (toN l).map Int.ofNat
   rw [← this]
  | negSucc n=>cases h.1
theorem okN8_app {l m : List Int} (h : okN8 l = true) (k : okN8 m = true) : okN8 (l++m) = true:=by
 unfold okN8 at *;rw [List.all_append,h,k];rfl
theorem okN8_of {l : List Int} (h : ∀ x∈l,0≤x∧x≤255) : okN8 l = true:=by
 unfold okN8;refine List.all_eq_true.2 fun x hx=>?_
 obtain ⟨h0,h1⟩:=h x hx;cases x with
 | ofNat n =>
  have : (n : Int)≤255:=h1;show Nat.ble n 255 = true
  rw [Nat.ble_eq];omega
 | negSucc n=>exact absurd h0 (by simp)
theorem okN8_pad (n : Nat) : okN8 (padS n) = true:=by
 refine okN8_of fun x hx=>?_
 unfold padS at hx;rcases List.mem_append.1 hx with hx | hx
 ·rcases List.mem_cons.1 hx with rfl | hx
  ·omega
  ·obtain ⟨_,rfl⟩:=List.mem_replicate.1 hx
   omega
 ·obtain ⟨j,_,rfl⟩:=List.mem_map.1 hx
  unfold lenB;have : ∀ x : Int,IntKind.u8.wrap x = x % 2 ^ 8:=fun x=>by simp [IntKind.wrap,IntKind.signed,IntKind.bits]
  rw [this,show (2 : Int) ^ 8 = 256 from rfl];omega
noncomputable def shaN (l : List Int) : Arr 32:=Force.force (toN (l++padS l.length)) fun y=>Force.force (blksN y (Nat.div (Nat.add l.length (padS l.length).length) 64) 0 1779033703 3144134277 1013904242 2773480762 1359893119 2600822924 528734635 1541459225) outN
theorem shaN_eq {l : List Int} (h : okN8 l = true) : shaN l = shaS l:=by
 unfold shaN shaS;rw [Force.eq,Force.eq];have hy:=okN8_map (okN8_app h (okN8_pad l.length))
 have hl : (l++padS l.length).length = 64 * ((l.length + (padS l.length).length) / 64):=by
  have:=total_len l.length;rw [List.length_append];omega
 obtain ⟨a',b',c',d',e',f',g',h',g1,g2⟩:=blksN_ok hl hy ((l.length + (padS l.length).length) / 64) 0 (by omega) 1779033703 3144134277 1013904242 2773480762 1359893119 2600822924 528734635 1541459225 ⟨⟨rfl,by omega⟩,⟨rfl,by omega⟩,⟨rfl,by omega⟩,⟨rfl,by omega⟩,⟨rfl,by omega⟩,⟨rfl,by omega⟩,⟨rfl,by omega⟩,⟨rfl,by omega⟩⟩;have g3 : blksN (toN (l++padS l.length)) (Nat.div (Nat.add l.length (padS l.length).length) 64) 0 1779033703 3144134277 1013904242 2773480762 1359893119 2600822924 528734635 1541459225 = _:=g1;rw [g3,outN_ok g2]
noncomputable def shaF (l : List Int) : Option (Arr 32):=Bool.rec (motive:=fun _=>Option (Arr 32)) none (some (shaN l)) (and (okN8 l) (Nat.ble l.length 100000))
theorem shaF_some {l : List Int} {r : Arr 32} (h : shaF l = some r) : r = shaS l∧l.length≤100000:=by
 unfold shaF at h;cases hc : (and (okN8 l) (Nat.ble l.length 100000)) with
 | false=>rw [hc] at h; cases h
 | true =>
  rw [hc] at h;have h:=Option.some.inj h;have h2:=Bool.and_eq_true_iff.1 hc;exact ⟨by rw [← h,shaN_eq h2.1],Nat.le_of_ble_eq_true h2.2⟩
noncomputable def dblF (l : List Int) : Option (Arr 32):=(shaF l).bindF fun a=>shaF a.l
theorem rshaF_le (l : List Int) : Le (shaF l) (Lref03_Sum l):=fun r h=>by
 obtain ⟨rfl,hl⟩:=shaF_some h;exact ref_sha (by omega)
theorem dblF_some {l : List Int} {r : Arr 32} (h : dblF l = some r) : r = shaS (shaS l).l∧l.length≤100000:=by
 unfold dblF at h;rw [bindF_eq] at h;obtain ⟨a,ha,h⟩:=Option.bind_eq_some_iff.1 h;obtain ⟨rfl,hl⟩:=shaF_some ha;exact ⟨(shaF_some h).1,hl⟩
theorem rdblF_le (l : List Int) : Le (dblF l) (Lref03_Double l):=fun r h=>by
 obtain ⟨rfl,hl⟩:=dblF_some h;exact rdbl_eq (by omega)
end Go.Lc
end
section
/- the chain of filter headers: a height's filter is verified alike on both sides -/
namespace Go.Lc
open Go.RowKit
open Go.Av
set_option linter.unusedVariables false
set_option linter.unusedSimpArgs false
set_option maxRecDepth 100000

theorem join_two {a b : List Int} (h : a.length + b.length≤140737488355328) : Lref01_Join [a,b] = some (a++b):=by
 unfold Lref01_Join
 rw [runLoop_step (s' := (1,a)) (by
  simp only [Lref01_Join_s1];rw [if_pos (by simp),show (0 : Int) = ((0 : Nat) : Int) from rfl,idx_bind (by simp)];simp only [List.getElem_cons_zero];rw [joined_eq (by simp; omega)];simp [wi]),runLoop_step (s' := (2,a++b)) (by
  simp only [Lref01_Join_s1];rw [if_pos (by simp),show (1 : Int) = ((1 : Nat) : Int) from rfl,idx_bind (by simp)];simp only [List.getElem_cons_succ,List.getElem_cons_zero];rw [joined_eq (by omega)]
  simp [wi])]
 refine runLoop_exit ?_;simp only [Lref01_Join_s1];rw [if_neg (by simp)];rfl
theorem concat_two {a b : List Int} (h : a.length + b.length≤1000000000) : Lslices_Concat_of__byte_byte [a,b] = some (a++b):=by
 have e1 : runLoop (Lslices_Concat_of__byte_byte_s2 [a,b]) (0,([] : List Int)) = some (a++b):=by
  rw [runLoop_step (s' := (1,a)) (by
   simp only [Lslices_Concat_of__byte_byte_s2];rw [if_pos (by simp),show (0 : Int) = ((0 : Nat) : Int) from rfl,idx_bind (by simp),chk_bind (by simp; omega)];simp [wi]),runLoop_step (s' := (2,a++b)) (by
   simp only [Lslices_Concat_of__byte_byte_s2];rw [if_pos (by simp),show (1 : Int) = ((1 : Nat) : Int) from rfl,idx_bind (by simp),chk_bind (by simp; omega)]
   simp [wi])]
  refine runLoop_exit ?_;simp only [Lslices_Concat_of__byte_byte_s2];rw [if_neg (by simp)];rfl
 unfold Lslices_Concat_of__byte_byte
 rw [runLoop_step (s' := ((a.length : Int),1)) (by
  simp only [Lslices_Concat_of__byte_byte_s1];rw [if_pos (by simp),show (0 : Int) = ((0 : Nat) : Int) from rfl,idx_bind (by simp)];simp only [List.getElem_cons_zero];rw [wi (((0 : Nat) : Int) + a.length) (by omega),if_neg (by omega),Lslices_Concat_of__byte_byte_k3,wi (((0 : Nat) : Int) + a.length) (by omega)];simp [wi]),runLoop_step (s' := ((a.length : Int) + b.length,2)) (by
  simp only [Lslices_Concat_of__byte_byte_s1];rw [if_pos (by simp),show (1 : Int) = ((1 : Nat) : Int) from rfl,idx_bind (by simp)];simp only [List.getElem_cons_succ,List.getElem_cons_zero];rw [wi ((a.length : Int) + b.length) (by omega),if_neg (by omega),Lslices_Concat_of__byte_byte_k3,wi ((a.length : Int) + b.length) (by omega)]
  simp [wi])]
 refine runLoop_exit ?_;simp only [Lslices_Concat_of__byte_byte_s1];rw [if_neg (by simp),Lslices_Concat_of__byte_byte_k1,chk_bind (by omega),e1]
noncomputable def headS (f p : Arr 32) : Arr 32:=shaS (shaS (f.l++p.l)).l
theorem header_eq (f p : Arr 32) : Lfilter_Header f p = some (headS f p):=by
 have h1:=f.hl; have h2:=p.hl;unfold Lfilter_Header;rw [concat_two (by omega),bind_some',dbl_eq (by simp [h1,h2])];rfl
theorem rheader_eq (f p : Arr 32) : Lref20_Header f p = some (headS f p):=by
 have h1:=f.hl; have h2:=p.hl;unfold Lref20_Header;rw [join_two (by omega),bind_some',rdbl_eq (by simp [h1,h2])];rfl
def encF (f : Tapi_Filter) : List Int×Int:=if (f.1 < 0∨4096 < f.1)∨200000 < (f.2.length : Int) then ([],4) else (sizeB f.1++bytesB f.2,0)
theorem fenc_eq (f : Tapi_Filter) : Lfilter_Encode f = some (encF f):=by
 unfold Lfilter_Encode encF;by_cases h : (f.1 < 0∨4096 < f.1)∨200000 < (f.2.length : Int)
 ·rw [if_pos h,if_pos h]
 ·have:=sizeB_len f.1
  rw [if_neg h,if_neg h,wu _ (by omega),size_eq (by omega) (by simp),bind_some',List.nil_append,abytes_eq (by omega)];rfl
theorem rfenc_eq (f : Tapi_Filter) : Lref20_Encode f = some (encF f):=by
 unfold Lref20_Encode encF;by_cases h : (f.1 < 0∨4096 < f.1)∨200000 < (f.2.length : Int)
 ·rw [if_pos h,if_pos h]
 ·have:=sizeB_len f.1
  rw [if_neg h,if_neg h,wu _ (by omega),rsize_eq (by omega) (by simp),bind_some',List.nil_append,rbytes_eq (by omega)];rfl
theorem encF_len (f : Tapi_Filter) : (encF f).1.length≤300000:=by
 unfold encF;split
 ·simp
 ·have:=sizeB_len f.1
  have:=bytesB_len f.2;simp only [List.length_append];omega
noncomputable def hashF (f : Tapi_Filter) : Arr 32:=if (encF f).2 = 0 then shaS (shaS (encF f).1).l else zA 32
theorem fhash_eq (f : Tapi_Filter) : Lfilter_Hash f = some (hashF f):=by
 have:=encF_len f;unfold Lfilter_Hash hashF;rw [fenc_eq,bind_some'];by_cases h : (encF f).2 = 0
 ·rw [if_neg (by simp [h]),if_pos h,dbl_eq (by omega)]
  rfl
 ·rw [if_pos h,if_neg h]
theorem rfhash_eq (f : Tapi_Filter) : Lref20_Hash f = some (hashF f):=by
 have:=encF_len f;unfold Lref20_Hash hashF;rw [rfenc_eq,bind_some'];by_cases h : (encF f).2 = 0
 ·rw [if_neg (by simp [h]),if_pos h,rdbl_eq (by omega)]
  rfl
 ·rw [if_pos h,if_neg h]
end Go.Lc
end
section
/- The sort of the program,function by function: what each computes,in the words of the kit's plain sort. -/
namespace Go.Lc
open Go.RowKit
open Go.Av
open Go.Sort
set_option linter.unusedVariables false
set_option linter.unusedSimpArgs false

/-! insertion sort -/
/-! heap sort -/
/-! reverse -/
/-! the scans -/
/-! partitionEqual -/
/-! partition -/
end Go.Lc
end
section
/- The sort of the program,the rest: it gives the sorted list. -/
namespace Go.Lc
open Go.RowKit
open Go.Av
open Go.Sort
set_option linter.unusedVariables false
set_option linter.unusedSimpArgs false

/-! partialInsertionSort -/
/-! the pivot -/
end Go.Lc
end
section
/- The sort of the program,the end: slices.Sort gives the sorted list. -/
namespace Go.Lc
open Go.RowKit
open Go.Av
open Go.Sort
set_option linter.unusedVariables false
set_option linter.unusedSimpArgs false

/-! breakPatterns -/
theorem wu_nat {n : Nat} (h : n≤18446744073709551615) : IntKind.u64.wrap (n : Int) = (n : Int):=wu _ (by omega)
/-! pdqsort -/
/-! more fuel,the same result -/
end Go.Lc
end
section
/- Strings of bits: what the writer of the program and that of the reference do,bit by bit. -/
namespace Go.Lc
open Go.RowKit
open Go.Av
set_option linter.unusedVariables false
set_option linter.unusedSimpArgs false
set_option maxRecDepth 100000

/-- bit k of a byte,the highest first -/
def bb (x : Int) (k : Nat) : Bool:=decide ((x / 2 ^ (7 - k)) % 2 = 1)
def bt (d : List Int) (i : Nat) : Bool:=bb (d.getD (i / 8) 0) (i % 8)
def bl (d : List Int) (n : Nat) : List Bool:=(List.range n).map (bt d)
def Byt (d : List Int) : Prop:=∀ x∈d,0≤x∧x≤255
structure VB (d : List Int) (n : Nat) : Prop where
 byt : Byt d
 len : d.length = (n + 7) / 8
 rest : ∀ i,n≤i→bt d i = false
theorem Byt.get {d : List Int} (h : Byt d) (i : Nat) : 0≤d.getD i 0∧d.getD i 0≤255:=by
 rw [List.getD_eq_getElem?_getD];by_cases hi : i < d.length
 ·simp only [List.getElem?_eq_getElem hi,Option.getD_some]
  exact h _ (List.getElem_mem hi)
 ·simp [List.getElem?_eq_none (Nat.le_of_not_lt hi)]
/-! one more bit -/
end Go.Lc
end
