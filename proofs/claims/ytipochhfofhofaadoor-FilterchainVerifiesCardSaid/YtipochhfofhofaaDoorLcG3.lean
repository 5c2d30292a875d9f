import Derived.Test.YtipochhfofhofaaDoorLcG2
import Derived.Test.YtipochhfofhofaaDoorLcG1
import Derived.KernelRfl
section
/- Replacement: signals and conflicts; law 36, signals. -/
namespace Go.Lc
open Go.RowKit
open Go.Av
set_option linter.unusedVariables false

section
variable {s t : Tapi_Tx}
end
end Go.Lc
end
section
/- SHA-256: the program's rounds and the reference's are the same. -/
namespace Go.Lc
open Go.RowKit
open Go.Av
set_option linter.unusedVariables false

theorem wrap_nn {k : IntKind} (h : k.signed = false) (x : Int) : 0 ≤ k.wrap x := by
 cases k <;> simp [IntKind.signed] at h <;> simp [IntKind.wrap, IntKind.signed, IntKind.bits] <;> omega
theorem bits_nn {k : IntKind} (h : k.signed = false) (op : BinOp) (x y : Int) : 0 ≤ bits op k x y := wrap_nn h _
def rot (x n : Int) : Int := bits .or .u32 (IntKind.u32.wrap (x * (2 ^ (min (bits .and .u64 (IntKind.u64.wrap n) 31).toNat 32)))) (x.fdiv (2 ^ (min (IntKind.u64.wrap (32 - (bits .and .u64 (IntKind.u64.wrap n) 31))).toNat 32)))
theorem rot_eq (x n : Int) : Lmath_bits_RotateLeft32 x n = some (rot x n) := by
 have h1 : ¬ bits .and .u64 (IntKind.u64.wrap n) 31 < 0 := by have := bits_nn (k := .u64) rfl .and (IntKind.u64.wrap n) 31; omega
 have h2 : ¬ IntKind.u64.wrap (32 - bits .and .u64 (IntKind.u64.wrap n) 31) < 0 := by have := wrap_nn (k := .u64) rfl (32 - bits .and .u64 (IntKind.u64.wrap n) 31); omega
 unfold Lmath_bits_RotateLeft32
 rw [chk_bind h1, chk_bind h2]
 rfl
def rr (x n : Int) : Int := rot x (IntKind.i64.wrap (-n))
theorem rr_eq (x n : Int) : Lsha_rotr x n = some (rr x n) := by
 unfold Lsha_rotr
 rw [rot_eq]
 rfl
theorem rrr_eq (x n : Int) : Lref03_rotr x n = some (rr x n) := by
 unfold Lref03_rotr
 rw [rot_eq]
 rfl

/-! the words of a block -/
def wd (b : Arr 64) (i : Nat) : Nat → Int
 | 0 => 0
 | j + 1 => bits .or .u32 (IntKind.u32.wrap (wd b i j * 256)) (IntKind.u32.wrap (b.at (4 * i + j)))
def sch1 (b : Arr 64) : Nat → Arr 64
 | 0 => zA 64
 | i + 1 => (sch1 b i).put i (wd b i 4)
theorem sch1_at (b : Arr 64) : ∀ (i j : Nat), i ≤ j → (sch1 b i).at j = 0
 | 0, j, _ => zA_at
 | i + 1, j, h => by
  unfold sch1
  rw [Arr.at_put_ne _ (by omega)]
  exact sch1_at b i j (by omega)
def nxtW (w : Arr 64) (i : Nat) : Int := IntKind.u32.wrap ((IntKind.u32.wrap ((IntKind.u32.wrap ((w.at (i - 16)) + (bits .xor .u32 (bits .xor .u32 (rr (w.at (i - 15)) 7) (rr (w.at (i - 15)) 18)) ((w.at (i - 15)).fdiv 8)))) + (w.at (i - 7)))) + (bits .xor .u32 (bits .xor .u32 (rr (w.at (i - 2)) 17) (rr (w.at (i - 2)) 19)) ((w.at (i - 2)).fdiv 1024)))
def sch2 (w : Arr 64) : Nat → Arr 64
 | 0 => w
 | k + 1 => (sch2 w k).put (16 + k) (nxtW (sch2 w k) (16 + k))
def sched (b : Arr 64) : Arr 64 := sch2 (sch1 b 16) 48
theorem inA_at {n i : Nat} {z : Int} {β : Type} {f : Nat → Option β} (h : z = (i : Int)) (hi : i < n) : (inA n z).bind f = f i := by
 subst h
 exact inA_bind hi
theorem sch_k1 (w : Arr 64) : Lsha_schedule_k1 w = some (sch2 w 48) := by
 unfold Lsha_schedule_k1
 have := runLoop_to (step := Lsha_schedule_s2) (fun k => (((16 + k : Nat) : Int), sch2 w k)) 48 (x := some (sch2 w 48)) (fun k hk => by
  simp only [Lsha_schedule_s2]
  rw [if_pos (by omega), inA_at (i := 16 + k - 15) (by rw [wi _ (by omega)]; omega) (by omega), rr_eq, bind_some', rr_eq, bind_some', inA_at (i := 16 + k - 2) (by rw [wi _ (by omega)]; omega) (by omega), rr_eq, bind_some', rr_eq, bind_some', inA_at (i := 16 + k - 16) (by rw [wi _ (by omega)]; omega) (by omega), inA_at (i := 16 + k - 7) (by rw [wi _ (by omega)]; omega) (by omega), inA_at (i := 16 + k) rfl (by omega), wi _ (by omega)]
  rfl) (by
  simp only [Lsha_schedule_s2]
  rw [if_neg (by omega)]
  rfl)
 exact this
theorem ref_k1 (w : Arr 64) : Lref03_schedule_k1 w = some (sch2 w 48) := by
 unfold Lref03_schedule_k1
 have := runLoop_to (step := Lref03_schedule_s2) (fun k => (((16 + k : Nat) : Int), sch2 w k)) 48 (x := some (sch2 w 48)) (fun k hk => by
  simp only [Lref03_schedule_s2]
  rw [if_pos (by omega), inA_at (i := 16 + k - 15) (by rw [wi _ (by omega)]; omega) (by omega), rrr_eq, bind_some', rrr_eq, bind_some', inA_at (i := 16 + k - 2) (by rw [wi _ (by omega)]; omega) (by omega), rrr_eq, bind_some', rrr_eq, bind_some', inA_at (i := 16 + k - 16) (by rw [wi _ (by omega)]; omega) (by omega), inA_at (i := 16 + k - 7) (by rw [wi _ (by omega)]; omega) (by omega), inA_at (i := 16 + k) rfl (by omega), wi _ (by omega)]
  rfl) (by
  simp only [Lref03_schedule_s2]
  rw [if_neg (by omega)]
  rfl)
 exact this
theorem sched_eq (b : Arr 64) : Lsha_schedule b = some (sched b) := by
 unfold Lsha_schedule
 refine runLoop_to (step := Lsha_schedule_s1 b) (fun i => ((i : Int), sch1 b i)) 16 (x := some (sched b)) (fun i hi => ?_) ?_
 ·simp only [Lsha_schedule_s1]
  rw [if_pos (by omega)]
  have h0 : sch1 b i = (sch1 b i).put i (wd b i 0) := by
   have := Arr.put_at (sch1 b i) (i := i) (by omega)
   rw [sch1_at b i i (Nat.le_refl _)] at this
   exact this.symm
  have := runLoop_to (step := Lsha_schedule_s3 (i : Int) b) (fun j => ((j : Int), (sch1 b i).put i (wd b i j))) 4 (x := some (.inl (((i + 1 : Nat) : Int), (sch1 b i).put i (wd b i 4)))) (fun j hj => by
   simp only [Lsha_schedule_s3]
   rw [if_pos (by omega), inA_bind (by omega), inA_at (i := 4 * i + j) (by rw [wi (4 * (i : Int)) (by omega), wi _ (by omega)]; omega) (by omega), Arr.at_put _ (by omega), Arr.put_put, wi_succ hj (by omega)]
   rfl) (by
   simp only [Lsha_schedule_s3]
   rw [if_neg (by omega)]
   simp only [Lsha_schedule_k3, wi_succ hi (show (16 : Nat) ≤ 9223372036854775807 by omega)])
  have e : runLoop (Lsha_schedule_s3 (i : Int) b) (0, sch1 b i) = _ := (congrArg (fun w => runLoop (Lsha_schedule_s3 (i : Int) b) (0, w)) h0).trans this
  rw [e]
  rfl
 ·simp only [Lsha_schedule_s1]
  rw [if_neg (by omega), sch_k1]
  rfl

/-! words as bit vectors -/
abbrev bv (x : Int) : BitVec 32 := BitVec.ofInt 32 x
theorem wrap_u32 (x : Int) : IntKind.u32.wrap x = x % 2 ^ 32 := by simp [IntKind.wrap, IntKind.signed, IntKind.bits]
theorem bv_wrap (x : Int) : bv (IntKind.u32.wrap x) = bv x := by
 rw [wrap_u32]
 apply BitVec.eq_of_toNat_eq
 simp [BitVec.toNat_ofInt]
theorem bv_or (x y : Int) : bv (bits .or .u32 x y) = bv x ||| bv y := by
 show bv (IntKind.u32.wrap ((bv x ||| bv y).toNat : Nat)) = _
 rw [bv_wrap]
 generalize bv x ||| bv y = r
 show BitVec.ofInt 32 (r.toNat : Int) = r
 rw [BitVec.ofInt_natCast, BitVec.ofNat_toNat]
 simp
theorem or_congr {x x' y y' : Int} (h1 : bv x = bv x') (h2 : bv y = bv y') : bits .or .u32 x y = bits .or .u32 x' y' := by
 show IntKind.u32.wrap ((bv x ||| bv y).toNat : Nat) = IntKind.u32.wrap ((bv x' ||| bv y').toNat : Nat)
 rw [h1, h2]
theorem bv_shl (x : Int) (k : Nat) (h : BitVec.ofInt 32 (2 ^ k) = BitVec.twoPow 32 k) : bv (x * 2 ^ k) = bv x <<< k := by
 rw [BitVec.shiftLeft_eq_mul_twoPow, ← h]
 exact BitVec.ofInt_mul _ _
def wr (b : Arr 64) (i : Nat) : Int := bits .or .u32 (bits .or .u32 (bits .or .u32 (IntKind.u32.wrap ((IntKind.u32.wrap (b.at (4 * i))) * 16777216)) (IntKind.u32.wrap ((IntKind.u32.wrap (b.at (4 * i + 1))) * 65536))) (IntKind.u32.wrap ((IntKind.u32.wrap (b.at (4 * i + 2))) * 256))) (IntKind.u32.wrap (b.at (4 * i + 3)))
theorem wr_wd (b : Arr 64) (i : Nat) : wr b i = wd b i 4 := by
 unfold wr
 simp only [wd]
 refine or_congr ?_ rfl
 have e8 : ∀ x, bv (x * 256) = bv x <<< 8 := fun x => bv_shl x 8 (by decide)
 have e16 : ∀ x, bv (x * 65536) = bv x <<< 16 := fun x => bv_shl x 16 (by decide)
 have e24 : ∀ x, bv (x * 16777216) = bv x <<< 24 := fun x => bv_shl x 24 (by decide)
 simp only [bv_or, bv_wrap, e8, e16, e24]
 have h0 : (bv 0) <<< 8 = 0#32 := by decide
 simp only [h0, BitVec.shiftLeft_or_distrib, ← BitVec.shiftLeft_add, BitVec.zero_or, Nat.add_zero]
theorem rsched_eq (b : Arr 64) : Lref03_schedule b = some (sched b) := by
 unfold Lref03_schedule
 refine runLoop_to (step := Lref03_schedule_s1 b) (fun i => ((i : Int), sch1 b i)) 16 (x := some (sched b)) (fun i hi => ?_) ?_
 ·simp only [Lref03_schedule_s1]
  rw [if_pos (by omega), wi (4 * (i : Int)) (by omega), wi (4 * (i : Int) + 1) (by omega), wi (4 * (i : Int) + 2) (by omega), wi (4 * (i : Int) + 3) (by omega), inA_at (i := 4 * i) (by omega) (by omega), inA_at (i := 4 * i + 1) (by omega) (by omega), inA_at (i := 4 * i + 2) (by omega) (by omega), inA_at (i := 4 * i + 3) (by omega) (by omega), inA_bind (by omega), wi_succ hi (by omega)]
  show some (Sum.inl (((i + 1 : Nat) : Int), (sch1 b i).put i (wr b i))) = _
  rw [wr_wd]
  rfl
 ·simp only [Lref03_schedule_s1]
  rw [if_neg (by omega), ref_k1]
  rfl
theorem consts : Lref03_constants = some shaK := by
 unfold Lref03_constants
 kernel_rfl
theorem inits : Lref03_Initial = some shaInitial := by
 unfold Lref03_Initial
 kernel_rfl

/-! rounds -/
abbrev St8 := Int × Int × Int × Int × Int × Int × Int × Int
abbrev ad (x y : Int) : Int := IntKind.u32.wrap (x + y)
def t1 (s : St8) (k w : Int) : Int := match s with
 | (a, b, c, d, e, f, g, h) => ad (ad (ad (ad h (bits .xor .u32 (bits .xor .u32 (rr e 6) (rr e 11)) (rr e 25))) (bits .xor .u32 (bits .and .u32 e f) (bits .and .u32 (bits .xor .u32 4294967295 e) g))) k) w
def t2 (s : St8) : Int := match s with
 | (a, b, c, d, e, f, g, h) => ad (bits .xor .u32 (bits .xor .u32 (rr a 2) (rr a 13)) (rr a 22)) (bits .xor .u32 (bits .xor .u32 (bits .and .u32 a b) (bits .and .u32 a c)) (bits .and .u32 b c))
def rnd (s : St8) (k w : Int) : St8 := match s with
 | (a, b, c, d, e, f, g, h) => (ad (t1 s k w) (t2 s), a, b, c, ad d (t1 s k w), e, f, g)
def rnds (w : Arr 64) (s : St8) : Nat → St8
 | 0 => s
 | i + 1 => rnd (rnds w s i) (shaK.at i) (w.at i)
def st0 (x : Arr 8) : St8 := (x.at 0, x.at 1, x.at 2, x.at 3, x.at 4, x.at 5, x.at 6, x.at 7)
noncomputable def comp (x : Arr 8) (b : Arr 64) : Arr 8 := match rnds (sched b) (st0 x) 64 with
 | (a, b, c, d, e, f, g, h) => ((((((((zA 8).put 0 (IntKind.u32.wrap ((x.at 0) + a))).put 1 (IntKind.u32.wrap ((x.at 1) + b))).put 2 (IntKind.u32.wrap ((x.at 2) + c))).put 3 (IntKind.u32.wrap ((x.at 3) + d))).put 4 (IntKind.u32.wrap ((x.at 4) + e))).put 5 (IntKind.u32.wrap ((x.at 5) + f))).put 6 (IntKind.u32.wrap ((x.at 6) + g))).put 7 (IntKind.u32.wrap ((x.at 7) + h))
def enc9 (s : St8) (i : Nat) : Int × Int × Int × Int × Int × Int × Int × Int × Int := match s with
 | (a, b, c, d, e, f, g, h) => (a, b, c, d, e, f, g, h, (i : Int))
theorem comp_eq (x : Arr 8) (b : Arr 64) : Lsha_Compress x b = some (comp x b) := by
 unfold Lsha_Compress
 rw [sched_eq, bind_some']
 refine runLoop_to (step := Lsha_Compress_s1 (sched b) x) (fun i => enc9 (rnds (sched b) (st0 x) i) i) 64 (x := some (comp x b)) (fun i hi => ?_) ?_
 ·show _ = some (Sum.inl (enc9 (rnd (rnds (sched b) (st0 x) i) (shaK.at i) ((sched b).at i)) (i + 1)))
  obtain ⟨a, b', c, d, e, f, g, h⟩ := rnds (sched b) (st0 x) i
  simp only [enc9, Lsha_Compress_s1]
  refine (if_pos (show (i : Int) < 64 by omega)).trans ?_
  rw [rr_eq, bind_some', rr_eq, bind_some', rr_eq, bind_some', inA_bind hi, rr_eq, bind_some', rr_eq, bind_some', rr_eq, bind_some', wi_succ hi (by omega)]
  rfl
 ·unfold comp
  obtain ⟨a, b', c, d, e, f, g, h⟩ := rnds (sched b) (st0 x) 64
  simp only [enc9, Lsha_Compress_s1]
  exact (if_neg (by decide)).trans rfl
theorem rcomp_eq (x : Arr 8) (b : Arr 64) : Lref03_Compress x b = some (comp x b) := by
 unfold Lref03_Compress
 rw [rsched_eq, bind_some', consts, bind_some']
 refine runLoop_to (step := Lref03_Compress_s1 shaK (sched b) x) (fun i => enc9 (rnds (sched b) (st0 x) i) i) 64 (x := some (comp x b)) (fun i hi => ?_) ?_
 ·show _ = some (Sum.inl (enc9 (rnd (rnds (sched b) (st0 x) i) (shaK.at i) ((sched b).at i)) (i + 1)))
  obtain ⟨a, b', c, d, e, f, g, h⟩ := rnds (sched b) (st0 x) i
  simp only [enc9, Lref03_Compress_s1]
  refine (if_pos (show (i : Int) < 64 by omega)).trans ?_
  rw [rrr_eq, bind_some', rrr_eq, bind_some', rrr_eq, bind_some', inA_bind hi, rrr_eq, bind_some', rrr_eq, bind_some', rrr_eq, bind_some', wi_succ hi (by omega)]
  rfl
 ·unfold comp
  obtain ⟨a, b', c, d, e, f, g, h⟩ := rnds (sched b) (st0 x) 64
  simp only [enc9, Lref03_Compress_s1]
  exact (if_neg (by decide)).trans rfl
end Go.Lc
end
section
/- SHA-256: padding and sums, the program's and the reference's. -/
namespace Go.Lc
open Go.RowKit
open Go.Av
set_option linter.unusedVariables false

def padN (n : Nat) : Nat := (64 - (n + 9) % 64) % 64
def lenB (n : Nat) (j : Nat) : Int := IntKind.u8.wrap ((IntKind.u64.wrap (8 * (n : Int))).fdiv (2 ^ (56 - 8 * j)))
def padS (n : Nat) : List Int := (128 :: List.replicate (padN n) 0) ++ (List.range 8).map (lenB n)
theorem padS_len (n : Nat) : (padS n).length = 9 + padN n := by simp [padS]; omega
theorem padN_lt (n : Nat) : padN n < 64 := Nat.mod_lt _ (by omega)
theorem tm {a b : Nat} : ((a : Int).tmod (b : Int)) = ((a % b : Nat) : Int) := rfl
theorem pad_p {n : Nat} (hn : n ≤ 1000000000) : (IntKind.u64.wrap (64 - ((IntKind.u64.wrap ((n : Int) + 9)).tmod 64))).tmod 64 = (padN n : Int) := by
 have e1 : IntKind.u64.wrap ((n : Int) + 9) = ((n + 9 : Nat) : Int) := wu _ (by omega)
 have e2 : ((n + 9 : Nat) : Int).tmod 64 = (((n + 9) % 64 : Nat) : Int) := rfl
 have h := Nat.mod_lt (n + 9) (show 64 > 0 by omega)
 have e3 : IntKind.u64.wrap (64 - (((n + 9) % 64 : Nat) : Int)) = ((64 - (n + 9) % 64 : Nat) : Int) := by rw [wu _ (by omega)]; omega
 rw [e1, e2, e3]
 rfl
theorem sha_pad {n : Nat} (hn : n ≤ 1000000000) : Lsha_Pad (n : Int) = some (padS n) := by
 have hp := pad_p hn
 have hl := padN_lt n
 unfold Lsha_Pad
 rw [hp, wu (1 + (padN n : Int)) (by omega), wu (9 + (padN n : Int)) (by omega), chk_bind (by omega), chk_bind (by simp; omega)]
 have e0 : (List.replicate ((1 + (padN n : Int)).toNat) (0 : Int)).set 0 128 = 128 :: List.replicate (padN n) 0 := by
  rw [show (1 + (padN n : Int)).toNat = padN n + 1 by omega, List.replicate_succ]
  rfl
 rw [e0]
 have := runLoop_to (step := Lsha_Pad_s1 (n : Int)) (fun k => ((k : Int), (128 :: List.replicate (padN n) 0) ++ (List.range k).map (lenB n))) 8 (x := some (padS n)) (fun k hk => by
  simp only [Lsha_Pad_s1]
  rw [if_pos (by omega), wi (8 * (k : Int)) (by omega), wi (56 - 8 * (k : Int)) (by omega), chk_bind (by omega), chk_bind (by simp; omega), wi_succ hk (by omega)]
  have e : min (56 - 8 * (k : Int)).toNat 64 = 56 - 8 * k := by omega
  rw [e, List.range_succ, List.map_append, ← List.append_assoc]
  rfl) (by
  simp only [Lsha_Pad_s1]
  rw [if_neg (by omega)]
  rfl)
 simpa using this
theorem ref_pad1 {n : Nat} (hn : n ≤ 1000000000) (b : List Int) (hb : b.length ≤ 1000) : runLoop (Lref03_Pad_s2 (n : Int)) (7, b) = some (b ++ (List.range 8).map (lenB n)) := by
 have := runLoop_to (step := Lref03_Pad_s2 (n : Int)) (fun k => (7 - (k : Int), b ++ (List.range k).map (lenB n))) 8 (x := some (b ++ (List.range 8).map (lenB n))) (fun k hk => by
  simp only [Lref03_Pad_s2]
  rw [if_pos (by omega), wi (8 * (7 - (k : Int))) (by omega), chk_bind (by omega), chk_bind (by simp; omega), wi (7 - (k : Int) - 1) (by omega)]
  have e : min (8 * (7 - (k : Int))).toNat 64 = 56 - 8 * k := by omega
  rw [e, List.range_succ, List.map_append, ← List.append_assoc, show 7 - (k : Int) - 1 = 7 - ((k + 1 : Nat) : Int) by omega]
  rfl) (by
  simp only [Lref03_Pad_s2]
  rw [if_neg (by omega)]
  rfl)
 simpa using this
theorem ref_pad {n : Nat} (hn : n ≤ 1000000000) : Lref03_Pad (n : Int) = some (padS n) := by
 have hl := padN_lt n
 unfold Lref03_Pad
 have key : ∀ k, k ≤ padN n → (IntKind.u64.wrap ((IntKind.u64.wrap ((n : Int) + (IntKind.u64.wrap (((128 :: List.replicate k (0 : Int)).length : Nat) : Int)))) + 8)).tmod 64 = (((n + k + 9) % 64 : Nat) : Int) := by
  intro k hk
  have e : (128 :: List.replicate k (0 : Int)).length = k + 1 := by simp
  rw [e, wu ((k + 1 : Nat) : Int) (by omega), wu ((n : Int) + ((k + 1 : Nat) : Int)) (by omega), wu _ (by omega), show ((n : Int) + ((k + 1 : Nat) : Int) + 8) = ((n + k + 9 : Nat) : Int) by omega]
  exact tm
 have := runLoop_to (step := Lref03_Pad_s1 (n : Int)) (fun k => 128 :: List.replicate k (0 : Int)) (padN n) (x := some (padS n)) (fun k hk => by
  simp only [Lref03_Pad_s1]
  rw [key k (by omega), if_pos, chk_bind (by simp; omega)]
  ·rw [List.cons_append, ← List.replicate_succ']
  ·have : ¬ (n + k + 9) % 64 = 0 := by unfold padN at hk; omega
   omega) (by
  simp only [Lref03_Pad_s1]
  rw [key _ (Nat.le_refl _), if_neg]
  ·unfold Lref03_Pad_k1
   rw [ref_pad1 hn _ (by simp; omega)]
   rfl
  ·have : (n + padN n + 9) % 64 = 0 := by unfold padN; omega
   omega)
 simpa using this

/-! the blocks -/
def blk (y : List Int) (i : Nat) : Arr 64 := arOf 64 (y.drop (64 * i))
noncomputable def hsh (y : List Int) : Nat → Arr 8
 | 0 => shaInitial
 | i + 1 => comp (hsh y i) (blk y i)
theorem over_arOf {l : List Int} (h : 64 ≤ l.length) : (zA 64).over l = arOf 64 l := by
 unfold Arr.over arOf
 rw [dif_pos h]
 have hz := (zA 64).hl
 have e : (zA 64).l.drop (min l.length 64) = [] := List.drop_eq_nil_of_le (by omega)
 simp only [e, List.append_nil]
def byt (h : Arr 8) (k : Nat) : Int := IntKind.u8.wrap ((h.at (k / 4)).fdiv (2 ^ (24 - (k % 4) * 8)))
def putN (h : Arr 8) : Nat → Arr 32
 | 0 => zA 32
 | k + 1 => (putN h k).put k (byt h k)
theorem sha_out (h : Arr 8) : Lsha_Sum_k1 h = some (putN h 32) := by
 unfold Lsha_Sum_k1
 refine runLoop_to (step := Lsha_Sum_s2 h) (fun k => ((k : Int), putN h k)) 32 (x := some (putN h 32)) (fun k hk => ?_) ?_
 ·simp only [Lsha_Sum_s2]
  have e4 : (k : Int).tmod 4 = ((k % 4 : Nat) : Int) := tm
  have d4 : (k : Int).tdiv 4 = ((k / 4 : Nat) : Int) := rfl
  rw [if_pos (by omega), e4, d4, wi (((k / 4 : Nat) : Int)) (by omega), wi (((k % 4 : Nat) : Int) * 8) (by omega), wi (24 - ((k % 4 : Nat) : Int) * 8) (by omega), inA_bind (by omega), chk_bind (by omega), inA_bind hk, wi_succ hk (by omega)]
  have e : min (24 - ((k % 4 : Nat) : Int) * 8).toNat 32 = 24 - (k % 4) * 8 := by omega
  rw [e]
  rfl
 ·simp only [Lsha_Sum_s2]
  rw [if_neg (by omega)]
  rfl
theorem ref_out (h : Arr 8) : Lref03_Sum_k1 h = some (putN h 32) := by
 unfold Lref03_Sum_k1
 refine runLoop_to (step := Lref03_Sum_s2 h) (fun i => ((i : Int), putN h (4 * i))) 8 (x := some (putN h 32)) (fun i hi => ?_) ?_
 ·simp only [Lref03_Sum_s2]
  rw [if_pos (by omega), wi (4 * (i : Int)) (by omega), wi (4 * (i : Int) + 1) (by omega), wi (4 * (i : Int) + 2) (by omega), wi (4 * (i : Int) + 3) (by omega), inA_bind hi, inA_at (i := 4 * i) (by omega) (by omega), inA_at (i := 4 * i + 1) (by omega) (by omega), inA_at (i := 4 * i + 2) (by omega) (by omega), inA_at (i := 4 * i + 3) (by omega) (by omega), wi_succ hi (by omega)]
  have b0 : byt h (4 * i) = IntKind.u8.wrap ((h.at i).fdiv 16777216) := by
   unfold byt
   rw [show 4 * i / 4 = i by omega, show 4 * i % 4 = 0 by omega]
   rfl
  have b1 : byt h (4 * i + 1) = IntKind.u8.wrap ((h.at i).fdiv 65536) := by
   unfold byt
   rw [show (4 * i + 1) / 4 = i by omega, show (4 * i + 1) % 4 = 1 by omega]
   rfl
  have b2 : byt h (4 * i + 2) = IntKind.u8.wrap ((h.at i).fdiv 256) := by
   unfold byt
   rw [show (4 * i + 2) / 4 = i by omega, show (4 * i + 2) % 4 = 2 by omega]
   rfl
  have b3 : byt h (4 * i + 3) = IntKind.u8.wrap (h.at i) := by
   unfold byt
   rw [show (4 * i + 3) / 4 = i by omega, show (4 * i + 3) % 4 = 3 by omega]
   show IntKind.u8.wrap ((h.at i).fdiv 1) = _
   rw [Int.fdiv_one]
  rw [show 4 * (i + 1) = 4 * i + 3 + 1 by omega]
  simp only [putN]
  rw [b0, b1, b2, b3]
 ·simp only [Lref03_Sum_s2]
  rw [if_neg (by omega)]
  rfl
noncomputable def shaS (a : List Int) : Arr 32 := putN (hsh (a ++ padS a.length) ((a.length + (padS a.length).length) / 64)) 32
theorem total_len (n : Nat) : (n + (padS n).length) % 64 = 0 := by
 rw [padS_len]
 unfold padN
 omega
theorem row_two {a b : List Int} (ha : a.length ≤ 1000000000) (hb : b.length ≤ 1000000000) : Lsha_row [a, b] = some (a ++ b) := by
 unfold Lsha_row
 rw [runLoop_step (s' := (1, a)) (by
  simp only [Lsha_row_s1]
  rw [if_pos (by simp), show (0 : Int) = ((0 : Nat) : Int) from rfl, idx_bind (by simp), chk_bind (by simp; omega)]
  simp [wi]), runLoop_step (s' := (2, a ++ b)) (by
  simp only [Lsha_row_s1]
  rw [if_pos (by simp), show (1 : Int) = ((1 : Nat) : Int) from rfl, idx_bind (by simp), chk_bind (by simp; omega)]
  simp [wi])]
 refine runLoop_exit ?_
 simp only [Lsha_row_s1]
 rw [if_neg (by simp)]
 rfl
theorem sha_sum {a : List Int} (h : a.length ≤ 100000000) : Lsha_Sum a = some (shaS a) := by
 have hp := padS_len a.length
 have hl := padN_lt a.length
 have ht := total_len a.length
 unfold Lsha_Sum
 rw [wu _ (by omega), sha_pad (by omega), bind_some', row_two (by omega) (by omega), bind_some']
 have hlen : (a ++ padS a.length).length = a.length + (padS a.length).length := by simp
 have hd : ((a ++ padS a.length).length : Int).tdiv 64 = (((a.length + (padS a.length).length) / 64 : Nat) : Int) := by rw [hlen]; rfl
 refine runLoop_to (step := Lsha_Sum_s1 (a ++ padS a.length)) (fun i => ((i : Int), hsh (a ++ padS a.length) i)) ((a.length + (padS a.length).length) / 64) (x := some (shaS a)) (fun i hi => ?_) ?_
 ·simp only [Lsha_Sum_s1]
  rw [hd, wi (((a.length + (padS a.length).length) / 64 : Nat) : Int) (by omega), if_pos (by omega), wi (64 * (i : Int)) (by omega), chk_bind (by omega), chk_bind (by omega), show (64 * (i : Int)).toNat = 64 * i by omega, comp_eq, bind_some', wi_succ hi (by omega)]
  rfl
 ·simp only [Lsha_Sum_s1]
  rw [hd, wi (((a.length + (padS a.length).length) / 64 : Nat) : Int) (by omega), if_neg (by omega), sha_out]
  rfl
theorem ref_sha {a : List Int} (h : a.length ≤ 100000000) : Lref03_Sum a = some (shaS a) := by
 have hp := padS_len a.length
 have hl := padN_lt a.length
 have ht := total_len a.length
 unfold Lref03_Sum
 rw [chk_bind (by omega), wu _ (by omega), ref_pad (by omega), bind_some', chk_bind (by omega), inits, bind_some']
 have hlen : (a ++ padS a.length).length = a.length + (padS a.length).length := by simp
 refine runLoop_to (step := Lref03_Sum_s1 a (padS a.length)) (fun i => ((64 * i : Int), hsh (a ++ padS a.length) i)) ((a.length + (padS a.length).length) / 64) (x := some (shaS a)) (fun i hi => ?_) ?_
 ·simp only [Lref03_Sum_s1]
  rw [wi (64 * (i : Int) + 64) (by omega), if_pos (by omega), chk_bind (by omega), show (64 * (i : Int)).toNat = 64 * i by omega, over_arOf (by rw [List.length_drop]; omega), rcomp_eq, bind_some', show 64 * (i : Int) + 64 = 64 * ((i + 1 : Nat) : Int) by omega]
  rfl
 ·simp only [Lref03_Sum_s1]
  rw [wi _ (by omega), if_neg (by omega), ref_out]
  rfl
theorem dbl_eq {a : List Int} (h : a.length ≤ 100000000) : Lsha_Double a = some (shaS (shaS a).l) := by
 have := (shaS a).hl
 unfold Lsha_Double
 rw [sha_sum h, bind_some', sha_sum (by omega)]
 rfl
theorem rdbl_eq {a : List Int} (h : a.length ≤ 100000000) : Lref03_Double a = some (shaS (shaS a).l) := by
 have := (shaS a).hl
 unfold Lref03_Double
 rw [ref_sha h, bind_some', ref_sha (by omega)]
 rfl
end Go.Lc
end
section
/- the chain of filter headers: a height's filter is verified alike on both sides -/
namespace Go.Lc
open Go.RowKit
open Go.Av
set_option linter.unusedVariables false
set_option linter.unusedSimpArgs false
set_option maxRecDepth 100000

theorem join_two {a b : List Int} (h : a.length + b.length ≤ 140737488355328) : Lref01_Join [a, b] = some (a ++ b) := by
 unfold Lref01_Join
 rw [runLoop_step (s' := (1, a)) (by
  simp only [Lref01_Join_s1]
  rw [if_pos (by simp), show (0 : Int) = ((0 : Nat) : Int) from rfl, idx_bind (by simp)]
  simp only [List.getElem_cons_zero]
  rw [joined_eq (by simp; omega)]
  simp [wi]), runLoop_step (s' := (2, a ++ b)) (by
  simp only [Lref01_Join_s1]
  rw [if_pos (by simp), show (1 : Int) = ((1 : Nat) : Int) from rfl, idx_bind (by simp)]
  simp only [List.getElem_cons_succ, List.getElem_cons_zero]
  rw [joined_eq (by omega)]
  simp [wi])]
 refine runLoop_exit ?_
 simp only [Lref01_Join_s1]
 rw [if_neg (by simp)]
 rfl
theorem concat_two {a b : List Int} (h : a.length + b.length ≤ 1000000000) : Lslices_Concat_of__byte_byte [a, b] = some (a ++ b) := by
 have e1 : runLoop (Lslices_Concat_of__byte_byte_s2 [a, b]) (0, ([] : List Int)) = some (a ++ b) := by
  rw [runLoop_step (s' := (1, a)) (by
   simp only [Lslices_Concat_of__byte_byte_s2]
   rw [if_pos (by simp), show (0 : Int) = ((0 : Nat) : Int) from rfl, idx_bind (by simp), chk_bind (by simp; omega)]
   simp [wi]), runLoop_step (s' := (2, a ++ b)) (by
   simp only [Lslices_Concat_of__byte_byte_s2]
   rw [if_pos (by simp), show (1 : Int) = ((1 : Nat) : Int) from rfl, idx_bind (by simp), chk_bind (by simp; omega)]
   simp [wi])]
  refine runLoop_exit ?_
  simp only [Lslices_Concat_of__byte_byte_s2]
  rw [if_neg (by simp)]
  rfl
 unfold Lslices_Concat_of__byte_byte
 rw [runLoop_step (s' := ((a.length : Int), 1)) (by
  simp only [Lslices_Concat_of__byte_byte_s1]
  rw [if_pos (by simp), show (0 : Int) = ((0 : Nat) : Int) from rfl, idx_bind (by simp)]
  simp only [List.getElem_cons_zero]
  rw [wi (((0 : Nat) : Int) + a.length) (by omega), if_neg (by omega), Lslices_Concat_of__byte_byte_k3, wi (((0 : Nat) : Int) + a.length) (by omega)]
  simp [wi]), runLoop_step (s' := ((a.length : Int) + b.length, 2)) (by
  simp only [Lslices_Concat_of__byte_byte_s1]
  rw [if_pos (by simp), show (1 : Int) = ((1 : Nat) : Int) from rfl, idx_bind (by simp)]
  simp only [List.getElem_cons_succ, List.getElem_cons_zero]
  rw [wi ((a.length : Int) + b.length) (by omega), if_neg (by omega), Lslices_Concat_of__byte_byte_k3, wi ((a.length : Int) + b.length) (by omega)]
  simp [wi])]
 refine runLoop_exit ?_
 simp only [Lslices_Concat_of__byte_byte_s1]
 rw [if_neg (by simp), Lslices_Concat_of__byte_byte_k1, chk_bind (by omega), e1]
noncomputable def headS (f p : Arr 32) : Arr 32 := shaS (shaS (f.l ++ p.l)).l
theorem header_eq (f p : Arr 32) : Lfilter_Header f p = some (headS f p) := by
 have h1 := f.hl; have h2 := p.hl
 unfold Lfilter_Header
 rw [concat_two (by omega), bind_some', dbl_eq (by simp [h1, h2])]
 rfl
theorem rheader_eq (f p : Arr 32) : Lref20_Header f p = some (headS f p) := by
 have h1 := f.hl; have h2 := p.hl
 unfold Lref20_Header
 rw [join_two (by omega), bind_some', rdbl_eq (by simp [h1, h2])]
 rfl
def encF (f : Tapi_Filter) : List Int × Int := if (f.1 < 0 ∨ 4096 < f.1) ∨ 200000 < (f.2.length : Int) then ([], 4) else (sizeB f.1 ++ bytesB f.2, 0)
theorem fenc_eq (f : Tapi_Filter) : Lfilter_Encode f = some (encF f) := by
 unfold Lfilter_Encode encF
 by_cases h : (f.1 < 0 ∨ 4096 < f.1) ∨ 200000 < (f.2.length : Int)
 ·rw [if_pos h, if_pos h]
 ·have := sizeB_len f.1
  rw [if_neg h, if_neg h, wu _ (by omega), size_eq (by omega) (by simp), bind_some', List.nil_append, abytes_eq (by omega)]
  rfl
theorem rfenc_eq (f : Tapi_Filter) : Lref20_Encode f = some (encF f) := by
 unfold Lref20_Encode encF
 by_cases h : (f.1 < 0 ∨ 4096 < f.1) ∨ 200000 < (f.2.length : Int)
 ·rw [if_pos h, if_pos h]
 ·have := sizeB_len f.1
  rw [if_neg h, if_neg h, wu _ (by omega), rsize_eq (by omega) (by simp), bind_some', List.nil_append, rbytes_eq (by omega)]
  rfl
theorem encF_len (f : Tapi_Filter) : (encF f).1.length ≤ 300000 := by
 unfold encF
 split
 ·simp
 ·have := sizeB_len f.1
  have := bytesB_len f.2
  simp only [List.length_append]
  omega
noncomputable def hashF (f : Tapi_Filter) : Arr 32 := if (encF f).2 = 0 then shaS (shaS (encF f).1).l else zA 32
theorem fhash_eq (f : Tapi_Filter) : Lfilter_Hash f = some (hashF f) := by
 have := encF_len f
 unfold Lfilter_Hash hashF
 rw [fenc_eq, bind_some']
 by_cases h : (encF f).2 = 0
 ·rw [if_neg (by simp [h]), if_pos h, dbl_eq (by omega)]
  rfl
 ·rw [if_pos h, if_neg h]
theorem rfhash_eq (f : Tapi_Filter) : Lref20_Hash f = some (hashF f) := by
 have := encF_len f
 unfold Lref20_Hash hashF
 rw [rfenc_eq, bind_some']
 by_cases h : (encF f).2 = 0
 ·rw [if_neg (by simp [h]), if_pos h, rdbl_eq (by omega)]
  rfl
 ·rw [if_pos h, if_neg h]
theorem fjoin_two {a b : List (Arr 32)} (h : a.length + b.length ≤ 1000000) : Lfilterchain_join [a, b] = some (a ++ b) := by
 unfold Lfilterchain_join
 rw [runLoop_step (s' := (1, a)) (by
  simp only [Lfilterchain_join_s1]
  rw [if_pos (by simp), show (0 : Int) = ((0 : Nat) : Int) from rfl, idx_bind (by simp), chk_bind (by simp; omega)]
  simp [wi]), runLoop_step (s' := (2, a ++ b)) (by
  simp only [Lfilterchain_join_s1]
  rw [if_pos (by simp), show (1 : Int) = ((1 : Nat) : Int) from rfl, idx_bind (by simp), chk_bind (by simp; omega)]
  simp [wi])]
 refine runLoop_exit ?_
 simp only [Lfilterchain_join_s1]
 rw [if_neg (by simp)]
 rfl
theorem batch_one (p f : Arr 32) : Lfilterchain_Batch p [f] = some [headS f p] := by
 unfold Lfilterchain_Batch
 rw [runLoop_step (s' := (1, headS f p, [headS f p])) (by
  simp only [Lfilterchain_Batch_s1]
  rw [if_pos (by simp), show (0 : Int) = ((0 : Nat) : Int) from rfl, idx_bind (by simp)]
  simp only [List.getElem_cons_zero]
  rw [header_eq, bind_some', chk_bind (by simp)]
  simp [wi])]
 refine runLoop_exit ?_
 simp only [Lfilterchain_Batch_s1]
 rw [if_neg (by simp)]
 rfl
theorem differ_eg (x y : Arr 32) : Lfilterchain_Differ [x, y] [x] = some 1 := by
 have : runLoop (Lfilterchain_differ_of_api_Hash_s1 [x, y] [x]) 0 = some (1 : Int) := by
  rw [runLoop_step (s' := (1 : Int)) (by
   simp only [Lfilterchain_differ_of_api_Hash_s1]
   simp [idx, wi])]
  refine runLoop_exit ?_
  simp only [Lfilterchain_differ_of_api_Hash_s1]
  simp
 unfold Lfilterchain_Differ Lfilterchain_differ_of_api_Hash
 rw [this]
 rfl
theorem extend_eg (x y : Arr 32) : Lfilterchain_Extend ([], []) [x] [y] = some (([x], [headS y (zA 32)]), 0) := by
 unfold Lfilterchain_Extend
 rw [show Lfilterchain_Sound ([], []) = some true by simp [Lfilterchain_Sound], bind_some', if_neg (by simp), if_neg (by simp)]
 rw [if_neg (show ¬ (4096 : Int) < IntKind.i64.wrap ((([] : List (Arr 32)).length : Int) + (([x] : List (Arr 32)).length : Int)) from by rw [wi _ (by simp)]; simp)]
 rw [fjoin_two (by simp), bind_some', Lfilterchain_prev, if_pos (by simp), bind_some', batch_one, bind_some', fjoin_two (by simp), bind_some']
 rfl
theorem sane21 : Llaw21_sane = some true := by
 unfold Llaw21_sane
 rw [extend_eg, bind_some', differ_eg, bind_some', if_pos (by simp)]
 simp only [List.getElem?_cons_zero]
 rw [bind_some', header_eq, bind_some', bind_some']
 simp
theorem verify_eq {c : Tapi_FilterChain} {h : Int} {f : Tapi_Filter} (hc : c.2.length ≤ 40) : Lref21_Verify c h f = Lfilterchain_Verify c h f ∧ ∃ r, Lfilterchain_Verify c h f = some r := by
 unfold Lref21_Verify Lfilterchain_Verify Lref21_Sound Lfilterchain_Sound Lref21_Verify_k1 Lfilterchain_prev
 simp only [bind_some', fenc_eq, rfenc_eq, fhash_eq, rfhash_eq, header_eq, rheader_eq]
 split
 ·exact ⟨rfl, _, rfl⟩
 ·split
  ·exact ⟨rfl, _, rfl⟩
  ·rename_i h1
   split
   ·exact ⟨rfl, _, rfl⟩
   ·by_cases h0 : h = 0
    ·subst h0
     rw [if_neg (by omega), if_pos rfl, bind_some']
     have : (0 : Int) = ((0 : Nat) : Int) := rfl
     rw [this, idx_bind (by omega)]
     refine ⟨rfl, ?_⟩
     split <;> exact ⟨_, rfl⟩
    ·obtain ⟨n, rfl⟩ : ∃ n : Nat, h = ((n + 1 : Nat) : Int) := ⟨(h - 1).toNat, by omega⟩
     rw [if_pos (by omega), if_neg h0, wi _ (by omega), show ((n + 1 : Nat) : Int) - 1 = (n : Int) by omega, idx_bind (by omega), idx_bind (by omega), idx_bind (by omega), bind_some', idx_bind (by omega)]
     refine ⟨rfl, ?_⟩
     split <;> exact ⟨_, rfl⟩
theorem filterchainVerifies (c : Tapi_FilterChain) (h : Int) (f : Tapi_Filter) : Llaw21_FilterchainVerifies c h f = some true := by
 unfold Llaw21_FilterchainVerifies Llaw21_kept
 rw [sane21, bind_some', if_neg (by simp), bind_some']
 split
 ·rfl
 ·rename_i hk
  have hc : c.2.length ≤ 40 := by
   simp at hk
   omega
  obtain ⟨e, r, hr⟩ := verify_eq (h := h) (f := f) hc
  rw [e, hr, bind_some', bind_some']
  simp
end Go.Lc
end
