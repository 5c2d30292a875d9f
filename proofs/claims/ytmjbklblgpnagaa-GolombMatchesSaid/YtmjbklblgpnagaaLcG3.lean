import Derived.Test.YtmjbklblgpnagaaLcG2
import Derived.Test.YtmjbklblgpnagaaLcG1
section
namespace Go.Lc
open Go.RowKit
open Go.Av
open Go.Sort
set_option linter.unusedVariables false
set_option linter.unusedSimpArgs false
theorem ZeO (lt : Int → Int → Bool) : ∀ (j : Nat) (d : Array Int), (shiftDown lt j d).size = d.size
 | 0, d => by rw [shiftDown]
 | j + 1, d => by
  rw [shiftDown]
  split
  ·rfl
  ·rw [ZeO lt j, size_swp]
theorem ZiA (lt : Int → Int → Bool) (b : Nat) : ∀ (n j : Nat) (d : Array Int), b - j = n → (shiftUp lt b j d).size = d.size := by
 intro n
 induction n with
 | zero => intro j d h; rw [shiftUp, if_neg (by omega)]
 | succ n ih =>
  intro j d h
  rw [shiftUp, if_pos (by omega)]
  split
  ·rfl
  ·rw [ih _ _ (by omega), size_swp]
theorem ZgV (lt : Int → Int → Bool) (d : Array Int) (b : Nat) : ∀ (n i : Nat), b - i = n → i ≤ scanSorted lt d b i ∧ (i ≤ b → scanSorted lt d b i ≤ b) := by
 intro n
 induction n with
 | zero => intro i h; rw [scanSorted, if_neg (by simp; omega)]; exact ⟨Nat.le_refl _, fun h => h⟩
 | succ n ih =>
  intro i h
  rw [scanSorted]
  split
  ·have := ih (i + 1) (by omega); omega
  ·exact ⟨Nat.le_refl _, fun h => h⟩
theorem Zne (d : Array Int) (a b : Nat) (c : Int) (l0 : List Int) (hb : b ≤ d.size) (hs : d.size < 4611686018427387904) : ∀ (n i : Nat), b - i = n → 1 ≤ i → Zr (Yg (b : Int) d.toList l0 (a : Int) c) (i : Int) = ZF ((scanSorted ltInt d b i : Nat) : Int) (b : Int) d.toList l0 (a : Int) c := by
 intro n
 induction n with
 | zero =>
  intro i h hi
  rw [scanSorted, if_neg (by simp; omega)]
  refine YG ?_
  simp only [Yg, (show ¬ (i : Int) < (b : Int) by omega), if_false, sB, false_and]
 | succ n ih =>
  intro i h hi
  obtain ⟨i, rfl⟩ : ∃ k, i = k + 1 := ⟨i - 1, by omega⟩
  have h1 : i + 1 < d.size := by omega
  have h2 : i < d.size := by omega
  have hc : ((i + 1 : Nat) : Int) < (b : Int) := by omega
  rw [scanSorted]
  cases hl : ltInt d[i + 1]! d[i]! with
  | false =>
   rw [if_pos (by simp [hl]; omega), ← ih _ (by omega) (by omega)]
   refine ZZ ?_
   simp only [Yg, hc, if_true, iB h1, gB h1, wP (show i < 9223372036854775807 by omega), iB h2, gB h2, Xv, sB, hl, Bool.not_false, true_and, wS (show i + 1 < 9223372036854775807 by omega)]
  | true =>
   rw [if_neg (by simp [hl])]
   refine YG ?_
   simp only [Yg, hc, if_true, iB h1, gB h1, wP (show i < 9223372036854775807 by omega), iB h2, gB h2, Xv, sB, hl, Bool.not_true, true_and, Bool.false_eq_true, if_false]
theorem Zjt (b i : Nat) (c : Int) : ∀ (j : Nat) (d : Array Int), j < d.size → d.size < 4611686018427387904 → Zr (Yf (b : Int) (i : Int) c) ((j : Int), d.toList) = ZE (b : Int) (i : Int) c (shiftDown ltInt j d).toList
 | 0, d, hj, hs => by
  rw [shiftDown]
  refine YG ?_
  simp only [Yf, if_neg (show ¬ (1 : Int) ≤ ((0 : Nat) : Int) by omega)]
 | j + 1, d, hj, hs => by
  have hj' : j < d.size := by omega
  have hc : (1 : Int) ≤ ((j + 1 : Nat) : Int) := by omega
  rw [shiftDown]
  cases hl : ltInt d[j + 1]! d[j]! with
  | false =>
   rw [if_pos (by simp)]
   refine YG ?_
   simp only [Yf, if_pos hc, iB hj, gB hj, wP (show j < 9223372036854775807 by omega), iB hj', gB hj', Xv, sB, hl, Bool.false_eq_true, not_false_eq_true, if_true]
  | true =>
   rw [if_neg (by simp), ← Zjt b i c j _ (by rw [size_swp]; exact hj') (by rw [size_swp]; exact hs)]
   refine ZZ ?_
   simp only [Yf, if_pos hc, iB hj, gB hj, wP (show j < 9223372036854775807 by omega), iB hj', gB hj', Xv, sB, hl, not_true_eq_false, if_false, iB1 hj', Zc4]
theorem Zo0 (b i : Nat) (c : Int) : ∀ (n j : Nat) (d : Array Int), b - j = n → 1 ≤ j → b ≤ d.size → d.size < 4611686018427387904 → Zr (Ye (b : Int) (i : Int) c) ((j : Int), d.toList) = ZD (i : Int) c (shiftUp ltInt b j d).toList := by
 intro n
 induction n with
 | zero =>
  intro j d h hj hb hs
  rw [shiftUp, if_neg (by omega)]
  refine YG ?_
  simp only [Ye, if_neg (show ¬ (j : Int) < (b : Int) by omega)]
 | succ n ih =>
  intro j d h hj hb hs
  obtain ⟨j, rfl⟩ : ∃ k, j = k + 1 := ⟨j - 1, by omega⟩
  have h1 : j + 1 < d.size := by omega
  have h2 : j < d.size := by omega
  have hc : ((j + 1 : Nat) : Int) < (b : Int) := by omega
  rw [shiftUp, if_pos (by omega)]
  cases hl : ltInt d[j + 1]! d[j]! with
  | false =>
   rw [if_pos (by simp [hl])]
   refine YG ?_
   simp only [Ye, if_pos hc, iB h1, gB h1, wP (show j < 9223372036854775807 by omega), iB h2, gB h2, Xv, sB, hl, Bool.false_eq_true, not_false_eq_true, if_true]
  | true =>
   rw [if_neg (by simp [hl]), show j + 1 - 1 = j by omega, ← ih _ _ (by omega) (by omega) (by rw [size_swp]; exact hb) (by rw [size_swp]; exact hs)]
   refine ZZ ?_
   simp only [Ye, if_pos hc, iB h1, gB h1, wP (show j < 9223372036854775807 by omega), iB h2, gB h2, Xv, sB, hl, not_true_eq_false, if_false, iB1 h2, Zc4, wS (show j + 1 < 9223372036854775807 by omega)]
theorem Znf (a b : Nat) (l0 : List Int) : ∀ (s i : Nat) (d : Array Int), s ≤ 5 → a < i → i ≤ b → b ≤ d.size → d.size < 4611686018427387904 → d.size = l0.length → Zr (ZX (b : Int) l0 (a : Int)) ((i : Int), ((5 - s : Nat) : Int), d.toList) = some ((partialIns ltInt a b s i d).2, (partialIns ltInt a b s i d).1.toList) := by
 intro s
 induction s with
 | zero =>
  intro i d h5 hai hib hb hs h0
  have hc : d.toList.length = l0.length := by simpa using h0
  rw [partialIns]
  refine Yn ?_
  simp only [ZX, if_neg (show ¬ ((5 - 0 : Nat) : Int) < 5 by omega), Xh, Zs hc]
  rfl
 | succ s ih =>
  intro i d h5 hai hib hb hs h0
  have hc : d.toList.length = l0.length := by simpa using h0
  obtain ⟨u1, u2⟩ := ZgV ltInt d b _ i rfl
  have hst : ZX (b : Int) l0 (a : Int) ((i : Int), ((5 - (s + 1) : Nat) : Int), d.toList) = ZF ((scanSorted ltInt d b i : Nat) : Int) (b : Int) d.toList l0 (a : Int) ((5 - (s + 1) : Nat) : Int) := by
   rw [ZX, if_pos (by omega), Zne d a b _ l0 hb hs _ i rfl (by omega)]
  rw [partialIns]
  have u3 := u2 hib
  simp only
  generalize scanSorted ltInt d b i = k at u1 u3 hst ⊢
  clear u2
  by_cases g : k = b
  ·rw [if_pos g]
   refine Yn ?_
   rw [hst, ZF, if_pos (by omega), Zs hc]
  ·rw [if_neg g]
   by_cases g2 : b - a < 50
   ·rw [if_pos g2]
    refine Yn ?_
    rw [hst, ZF, if_neg (by omega), wD (by omega) (by omega), if_pos (by omega), Zs hc]
   ·rw [if_neg g2]
    obtain ⟨k, rfl⟩ : ∃ q, k = q + 1 := ⟨k - 1, by omega⟩
    have h1 : k + 1 < d.size := by omega
    have h2 : k < d.size := by omega
    rw [show k + 1 - 1 = k by omega]
    have e1 : ZX (b : Int) l0 (a : Int) ((i : Int), ((5 - (s + 1) : Nat) : Int), d.toList) = ZE (b : Int) ((k + 1 : Nat) : Int) ((5 - (s + 1) : Nat) : Int) (if k + 1 - a ≥ 2 then shiftDown ltInt k (swp d (k + 1) k) else swp d (k + 1) k).toList := by
     rw [hst, ZF, if_neg (by omega), wD (by omega) (by omega), if_neg (by omega)]
     simp only [wP (show k < 9223372036854775807 by omega), iB h1, iB h2, gB h1, gB h2, iB1 h2, Zc4, wD (show a ≤ k + 1 by omega) (show k + 1 < 9223372036854775808 by omega)]
     by_cases g3 : k + 1 - a ≥ 2
     ·rw [if_pos (show (2 : Int) ≤ ((k + 1 - a : Nat) : Int) by omega), if_pos g3, Zjt b (k + 1) _ k _ (by rw [size_swp]; exact h2) (by rw [size_swp]; exact hs)]
     ·rw [if_neg (show ¬ (2 : Int) ≤ ((k + 1 - a : Nat) : Int) by omega), if_neg g3]
    have hz : (if k + 1 - a ≥ 2 then shiftDown ltInt k (swp d (k + 1) k) else swp d (k + 1) k).size = d.size := by
     split
     ·rw [ZeO, size_swp]
     ·rw [size_swp]
    generalize (if k + 1 - a ≥ 2 then shiftDown ltInt k (swp d (k + 1) k) else swp d (k + 1) k) = d2 at e1 hz ⊢
    have hz2 : (if b - (k + 1) ≥ 2 then shiftUp ltInt b (k + 1 + 1) d2 else d2).size = d.size := by
     split
     ·rw [ZiA _ _ _ _ _ rfl, hz]
     ·exact hz
    rw [← ih (k + 1) _ (by omega) (by omega) (by omega) (by rw [hz2]; exact hb) (by rw [hz2]; exact hs) (by rw [hz2]; exact h0)]
    refine ZZ ?_
    have ec : IntKind.i64.wrap (((5 - (s + 1) : Nat) : Int) + 1) = ((5 - s : Nat) : Int) := by rw [wS (by omega)]; omega
    rw [e1, ZE, wD (by omega) (by omega)]
    by_cases g4 : b - (k + 1) ≥ 2
    ·rw [if_pos (by omega), if_pos g4, wS (by omega), Zo0 b (k + 1) _ _ (k + 1 + 1) d2 rfl (by omega) (by rw [hz]; exact hb) (by rw [hz]; exact hs), ZD, ec]
    ·rw [if_neg (by omega), if_neg g4, ZD, ec]
theorem Zo1 (d : Array Int) (a b : Nat) (hab : a < b) (hb : b ≤ d.size) (hs : d.size < 4611686018427387904) : ZT d.toList (a : Int) (b : Int) = some ((partialInsertionSort ltInt d a b).2, (partialInsertionSort ltInt d a b).1.toList) := by
 rw [ZT, wS (by omega)]
 exact Znf a b d.toList 5 (a + 1) d (by omega) (by omega) (by omega) hb hs (by simp)
def In (lo hi : Nat) (x : Int) : Prop := ∃ n : Nat, x = (n : Int) ∧ lo ≤ n ∧ n < hi
theorem xB {β : Type} {d : Array Int} {i : Nat} {f : Int → Option β} (h : i < d.size) : (idx d.toList (i : Int)).bind f = f d[i]! := by
 rw [YM (by simpa using h)]
 congr 1
 simp [getElem!_pos d i h]
theorem ZfK (d : Array Int) (lo hi : Nat) (hh : hi ≤ d.size) {x y : Int} (s : Int) (hx : In lo hi x) (hy : In lo hi y) : Tot (Yb d.toList x y s) fun r => In lo hi r.1 ∧ In lo hi r.2.1 := by
 obtain ⟨i, rfl, h1, h2⟩ := hx
 obtain ⟨j, rfl, h3, h4⟩ := hy
 rw [Yb, xB (by omega), xB (by omega), Xv, sB]
 exact ZeN (fun _ => Zc2 ⟨⟨j, rfl, h3, h4⟩, ⟨i, rfl, h1, h2⟩⟩) (fun _ => Zc2 ⟨⟨i, rfl, h1, h2⟩, ⟨j, rfl, h3, h4⟩⟩)
theorem Zhw (d : Array Int) (lo hi : Nat) (hh : hi ≤ d.size) {x y z : Int} (s : Int) (hx : In lo hi x) (hy : In lo hi y) (hz : In lo hi z) : Tot (Yr d.toList x y z s) fun r => In lo hi r.1 := by
 rw [Yr]
 refine (ZfK d lo hi hh s hx hy).bind fun r1 h1 => (ZfK d lo hi hh _ h1.2 hz).bind fun r2 h2 => (ZfK d lo hi hh _ h1.1 h2.1).bind fun r3 h3 => Zc2 h3.2
theorem Zeo (d : Array Int) (lo hi : Nat) (hh : hi ≤ d.size) (hs : d.size < 4611686018427387904) (i : Nat) (s : Int) (h1 : lo < i) (h2 : i + 1 < hi) : Tot (ZO d.toList (i : Int) s) fun r => In lo hi r.1 := by
 rw [ZO, wS (by omega), wi _ (by omega), show (i : Int) - 1 = ((i - 1 : Nat) : Int) by omega]
 exact (Zhw d lo hi hh s ⟨i - 1, rfl, by omega, by omega⟩ ⟨i, rfl, by omega, by omega⟩ ⟨i + 1, rfl, by omega, by omega⟩).bind fun r h => Zc2 h
theorem Zmz {lo hi : Nat} {p : Int} (s : Int) (h : In lo hi p) : Tot (Yp p s) fun r => In lo hi r.1 := by
 rw [Yp]
 exact ZeN (fun _ => Zc2 h) (fun _ => ZeN (fun _ => Zc2 h) (fun _ => Zc2 h))
theorem ZmA (d : Array Int) (lo hi : Nat) (hh : hi ≤ d.size) {x y z : Int} (s : Int) (hx : In lo hi x) (hy : In lo hi y) (hz : In lo hi z) : Tot (Yq d.toList x y z s) fun r => In lo hi r.1 := by
 rw [Yq]
 exact (Zhw d lo hi hh s hx hy hz).bind fun r h => Zmz _ h
theorem Zme (d : Array Int) (a b : Nat) (hab : a < b) (hb : b ≤ d.size) (hs : d.size < 4611686018427387904) : Tot (Yl d.toList (a : Int) (b : Int)) fun r => In a b r.1 := by
 have e0 : IntKind.i64.wrap ((b : Int) - (a : Int)) = ((b - a : Nat) : Int) := wD (by omega) (by omega)
 have e1 : IntKind.i64.wrap ((((b - a : Nat) : Int)).tdiv 4) = (((b - a) / 4 : Nat) : Int) := by
  rw [Int.tdiv_eq_ediv_of_nonneg (by omega), wi _ (by omega)]; omega
 have e2 : IntKind.i64.wrap ((((b - a) / 4 : Nat) : Int)) = (((b - a) / 4 : Nat) : Int) := wI _ (by omega)
 have e3 : IntKind.i64.wrap ((((b - a) / 4 : Nat) : Int) * 2) = (((b - a) / 4 * 2 : Nat) : Int) := by rw [wi _ (by omega)]; omega
 have e4 : IntKind.i64.wrap ((((b - a) / 4 : Nat) : Int) * 3) = (((b - a) / 4 * 3 : Nat) : Int) := by rw [wi _ (by omega)]; omega
 rw [Yl]
 simp only [e0, e1, e2, e3, e4, wA (show a + (b - a) / 4 < 9223372036854775808 by omega), wA (show a + (b - a) / 4 * 2 < 9223372036854775808 by omega), wA (show a + (b - a) / 4 * 3 < 9223372036854775808 by omega)]
 refine ZeN (fun h8 => ZeN (fun h50 => ?_) (fun _ => ?_)) (fun _ => ?_)
 ·exact (Zeo d a b hb hs _ _ (by omega) (by omega)).bind fun r1 h1 => (Zeo d a b hb hs _ _ (by omega) (by omega)).bind fun r2 h2 => (Zeo d a b hb hs _ _ (by omega) (by omega)).bind fun r3 h3 => ZmA d a b hb _ h1 h2 h3
 ·exact ZmA d a b hb _ ⟨_, rfl, by omega, by omega⟩ ⟨_, rfl, by omega, by omega⟩ ⟨_, rfl, by omega, by omega⟩
 ·exact Zmz _ ⟨_, rfl, by omega, by omega⟩
end Go.Lc
end
section
namespace Go.Lc
open Go.RowKit
open Go.Av
open Go.Sort
set_option linter.unusedVariables false
set_option linter.unusedSimpArgs false
theorem bitLenAux_zero : ∀ f : Nat, Lib.bitLenAux f 0 = 0
 | 0 => rfl
 | f + 1 => by simp [Lib.bitLenAux]
theorem bitLenAux_pow : ∀ (f x : Nat), 0 < x → 2 ^ Lib.bitLenAux f x ≤ 2 * x
 | 0, x, h => by simp [Lib.bitLenAux]; omega
 | f + 1, x, h => by
  simp only [Lib.bitLenAux, if_neg (show ¬ x = 0 by omega)]
  rcases Nat.eq_zero_or_pos (x / 2) with h0 | h0
  ·rw [h0, bitLenAux_zero]; simp; omega
  ·have := bitLenAux_pow f (x / 2) h0
   rw [Nat.pow_add, Nat.pow_one]
   omega
theorem Zfh {x : Nat} (h : 0 < x) : 2 ^ Lib.bitLen x ≤ 2 * x := bitLenAux_pow 64 x h
theorem ZkZ {x k : Nat} (h : 0 < x) (hk : 2 * x < 2 ^ k) : Lib.bitLen x < k := by
 have := Zfh h
 exact (Nat.pow_lt_pow_iff_right (by omega)).1 (Nat.lt_of_le_of_lt this hk)
theorem Zk0 {x : Int} (h : 0 ≤ x ∧ x ≤ 18446744073709551615) : XV x = some (Lib.bitLen x.toNat : Int) := by
 rw [XV, Zbo, Zs h]
 rfl
theorem ZgW {n : Nat} (h : n ≤ 18446744073709551615) : IntKind.u64.wrap (n : Int) = (n : Int) := wu _ (by omega)
theorem np2 {n : Nat} (h : 0 < n) (hn : n < 4611686018427387904) : Xg (n : Int) = some ((2 ^ Lib.bitLen n : Nat) : Int) := by
 have h1 := Zfh h
 have h2 : Lib.bitLen n < 64 := ZkZ h (by omega)
 rw [Xg, ZgW (by omega), Zk0 (by omega), Zj, Zs (by omega)]
 rw [show min ((Lib.bitLen ((n : Int).toNat) : Int)).toNat 64 = Lib.bitLen n by simp; omega]
 rw [show (1 * (2 ^ Lib.bitLen n) : Int) = ((2 ^ Lib.bitLen n : Nat) : Int) by simp]
 rw [ZgW (by omega)]
theorem Zjb (x : Int) {m : Nat} (h : m ≤ 18446744073709551615) : ∃ q : Nat, bits .and .u64 x (m : Int) = (q : Int) ∧ q ≤ m := by
 refine ⟨(BitVec.ofInt 64 x &&& BitVec.ofInt 64 (m : Int)).toNat, ?_, ?_⟩
 ·have hb := (BitVec.ofInt 64 x &&& BitVec.ofInt 64 (m : Int)).isLt
  show IntKind.u64.wrap ((BitVec.ofInt 64 x &&& BitVec.ofInt 64 (m : Int)).toNat : Int) = _
  exact ZgW (by omega)
 ·rw [BitVec.toNat_and]
  refine Nat.le_trans Nat.and_le_right ?_
  simp [BitVec.toNat_ofInt]
  omega
theorem Zo2 (d : Array Int) (a idx : Nat) (y : Int × Int) (o : Nat) (h1 : idx < d.size) (h2 : a + o < d.size) (hs : d.size < 4611686018427387904) : Z1 d.toList (a : Int) (idx : Int) y (o : Int) = some (.inl (((idx + 1 : Nat) : Int), (swp d idx (a + o)).toList, y.2)) := by
 rw [Z1]
 simp only [wA (show a + o < 9223372036854775808 by omega), iB h1, iB h2, gB h1, gB h2, iB1 h2, Zc4, wS (show idx < 9223372036854775807 by omega)]
theorem Zng (d : Array Int) (a b : Nat) (hab : a ≤ b) (hb : b ≤ d.size) (hs : d.size < 4611686018427387904) : ∃ d', Z9 d.toList (a : Int) (b : Int) = some d'.toList ∧ PermIn a b d d' := by
 have e0 : IntKind.i64.wrap ((b : Int) - (a : Int)) = ((b - a : Nat) : Int) := wD (by omega) (by omega)
 rw [Z9]
 by_cases h8 : 8 ≤ b - a
 ·have e1 : IntKind.i64.wrap ((((b - a : Nat) : Int)).tdiv 4) = (((b - a) / 4 : Nat) : Int) := by
   rw [Int.tdiv_eq_ediv_of_nonneg (by omega), wi _ (by omega)]; omega
  have e3 : IntKind.i64.wrap ((((b - a) / 4 : Nat) : Int) * 2) = (((b - a) / 4 * 2 : Nat) : Int) := by rw [wi _ (by omega)]; omega
  have e4 : IntKind.i64.wrap (((a + (b - a) / 4 * 2 : Nat) : Int) - 1) = ((a + (b - a) / 4 * 2 - 1 : Nat) : Int) := by rw [wi _ (by omega)]; omega
  have hy := Zfh (x := b - a) (by omega)
  have hy0 : 0 < 2 ^ Lib.bitLen (b - a) := Nat.pow_pos (by omega)
  have e5 : IntKind.u64.wrap (((2 ^ Lib.bitLen (b - a) : Nat) : Int) - 1) = ((2 ^ Lib.bitLen (b - a) - 1 : Nat) : Int) := by rw [wu _ (by omega)]; omega
  rw [if_pos (by omega), e0, np2 (by omega) (by omega), Zj]
  simp only [e1, e3, wA (show a + (b - a) / 4 * 2 < 9223372036854775808 by omega), e4]
  generalize 2 ^ Lib.bitLen (b - a) = y at hy hy0 e5
  have hl := YE (step := YV (a : Int) (b : Int) (y : Int) d.toList) (fun n s => ∃ (idx : Nat) (d' : Array Int), s.1 = (idx : Int) ∧ s.2.1 = d'.toList ∧ PermIn a b d d' ∧ a ≤ idx ∧ idx ≤ a + (b - a) / 4 * 2 + 2 ∧ n = a + (b - a) / 4 * 2 + 2 - idx) (fun r => ∃ d' : Array Int, r = d'.toList ∧ PermIn a b d d') ?_ _ ((a + (b - a) / 4 * 2 - 1 : Nat), d.toList, IntKind.u64.wrap ((b - a : Nat) : Int)) ⟨_, d, rfl, rfl, permIn_refl d a b, by omega, by omega, rfl⟩
  ·obtain ⟨r, h1, d', rfl, h2⟩ := hl
   exact ⟨d', h1, h2⟩
  ·rintro n ⟨p1, p2, p3⟩ ⟨idx, d', h1, h2, hp, ha, hi, hn⟩
   simp only at h1 h2
   subst h1 h2 hn
   have hz : d'.size = d.size := hp.1
   by_cases hc : idx ≤ a + (b - a) / 4 * 2 + 1
   ·refine .inl ?_
    obtain ⟨q, hq, hqy⟩ := Zjb (x := (bits .xor .u64 (bits .xor .u64 (bits .xor .u64 p3 (IntKind.u64.wrap (p3 * 8192))) ((bits .xor .u64 p3 (IntKind.u64.wrap (p3 * 8192))).fdiv 128)) (IntKind.u64.wrap ((bits .xor .u64 (bits .xor .u64 p3 (IntKind.u64.wrap (p3 * 8192))) ((bits .xor .u64 p3 (IntKind.u64.wrap (p3 * 8192))).fdiv 128)) * 131072)))) (m := y - 1) (by omega)
    have hk : ∀ (o : Nat) (yy : Int × Int), o < b - a → ∃ j s', j < a + (b - a) / 4 * 2 + 2 - idx ∧ Z1 d'.toList (a : Int) (idx : Int) yy (o : Int) = some (.inl s') ∧ ∃ (idx2 : Nat) (d2 : Array Int), s'.1 = (idx2 : Int) ∧ s'.2.1 = d2.toList ∧ PermIn a b d d2 ∧ a ≤ idx2 ∧ idx2 ≤ a + (b - a) / 4 * 2 + 2 ∧ j = a + (b - a) / 4 * 2 + 2 - idx2 := by
     intro o yy ho
     refine ⟨a + (b - a) / 4 * 2 + 2 - (idx + 1), _, by omega, Zo2 d' a idx yy o (by omega) (by omega) (by omega), idx + 1, _, rfl, rfl, ?_, by omega, by omega, rfl⟩
     exact permIn_trans _ _ _ a b hp (swp_permIn d' a b idx (a + o) (by omega) (by omega) (by omega) (by omega) (by omega))
    rw [YV]
    simp only [e0, e1, e3, wA (show a + (b - a) / 4 * 2 < 9223372036854775808 by omega), wS (show a + (b - a) / 4 * 2 < 9223372036854775807 by omega), if_pos (show (idx : Int) ≤ ((a + (b - a) / 4 * 2 + 1 : Nat) : Int) by omega), Xs, Zj, e5, hq, wI q (by omega)]
    by_cases ho : b - a ≤ q
    ·rw [if_pos (by omega), wD ho (by omega)]
     exact hk (q - (b - a)) _ (by omega)
    ·rw [if_neg (by omega)]
     exact hk q _ (by omega)
   ·refine .inr ⟨d'.toList, ?_, d', rfl, hp⟩
    rw [YV]
    simp only [e0, e1, e3, wA (show a + (b - a) / 4 * 2 < 9223372036854775808 by omega), wS (show a + (b - a) / 4 * 2 < 9223372036854775807 by omega), if_neg (show ¬ (idx : Int) ≤ ((a + (b - a) / 4 * 2 + 1 : Nat) : Int) by omega)]
    rw [Zs (by simp [hz])]
 ·rw [if_neg (by omega)]
  exact ⟨d, rfl, permIn_refl d a b⟩
def Srt (a b : Nat) (d : Array Int) (x : Option (List Int)) : Prop := ∃ d', x = some d'.toList ∧ PermIn a b d d' ∧ SortedIn ltInt a b d'
theorem ZnI (l0 : List Int) (rf : List Int → Int → Int → Int → Option (List Int)) (wb wp : Bool) (lim : Int) (d : Array Int) (a b : Nat) (hab : a < b) (hb : b ≤ d.size) (hs : d.size < 4611686018427387904) :
  ∃ (d2 : Array Int) (pv : Nat) (hint : Int), PermIn a b d d2 ∧ a ≤ pv ∧ pv < b ∧ ZQ (a : Int) (b : Int) wb wp l0 rf lim d.toList = ZC wb wp (a : Int) (b : Int) l0 lim rf (pv : Int) hint d2.toList := by
 obtain ⟨r, hr, p, hp, h1, h2⟩ := Zme d a b hab hb hs
 rw [ZQ, hr, Zj]
 by_cases g : r.2 = 2
 ·have hrev := reverseRange_holds d a b (by omega) hb
  refine ⟨reverseRange d a b, b - 1 - (p - a), 1, hrev, by omega, by omega, ?_⟩
  rw [if_pos g, ZnH d a b hab hb hs, Zj, Zs (by simp [hrev.1]), hp, wD h1 (by omega), wi ((b : Int) - 1) (by omega), show (b : Int) - 1 = ((b - 1 : Nat) : Int) by omega, wD (by omega) (by omega)]
 ·exact ⟨d, p, r.2, permIn_refl d a b, h1, h2, by rw [if_neg g, hp]⟩
theorem ZnJ (l0 : List Int) (rf : List Int → Int → Int → Int → Option (List Int)) (wb wp : Bool) (lim : Int) (d : Array Int) (a b pv : Nat) (hint : Int) (hab : a < b) (hb : b ≤ d.size) (hs : d.size < 4611686018427387904) (h0 : d.size = l0.length) (hB : Below ltInt a b d) :
  ∃ d3 : Array Int, PermIn a b d d3 ∧ ((ZC wb wp (a : Int) (b : Int) l0 lim rf (pv : Int) hint d.toList = some (.inr d3.toList) ∧ SortedIn ltInt a b d3) ∨ ZC wb wp (a : Int) (b : Int) l0 lim rf (pv : Int) hint d.toList = ZB (a : Int) (pv : Int) (b : Int) lim wb wp rf d3.toList) := by
 by_cases g : (wb = true ∧ wp = true) ∧ hint = 1
 ·obtain ⟨h1, h2⟩ := partialInsertionSort_holds swo_ltInt d a b hab hb hB
  refine ⟨(partialInsertionSort ltInt d a b).1, h1, ?_⟩
  have hz := h1.1
  rw [ZC, if_pos g, Zo1 d a b hab hb hs, Zj, Zs (by simp [hz])]
  by_cases gf : (partialInsertionSort ltInt d a b).2 = true
  ·refine .inl ⟨?_, h2 gf⟩
   rw [if_pos gf, Zs (by simp [hz, h0])]
  ·refine .inr ?_
   rw [if_neg gf]
 ·exact ⟨d, permIn_refl d a b, .inr (by rw [ZC, if_neg g])⟩
theorem Zmf (rf : List Int → Int → Int → Int → Option (List Int)) (l0 : List Int) (M : Nat) (hrf : ∀ (a b : Nat) (d : Array Int) (lim : Int), b - a < M → a ≤ b → b ≤ d.size → d.size < 4611686018427387904 → Below ltInt a b d → Srt a b d (rf d.toList (a : Int) (b : Int) lim)) :
  ∀ (m a b : Nat) (d : Array Int) (lim : Int) (wb wp : Bool), b - a = m → m ≤ M → a ≤ b → b ≤ d.size → d.size < 4611686018427387904 → d.size = l0.length → Below ltInt a b d → Srt a b d (Zr (ZR l0 rf) ((a : Int), (b : Int), lim, wb, wp, d.toList)) := by
 intro m
 induction m using Nat.strongRecOn with
 | _ m ih =>
  intro a b d lim wb wp hm hM hab hb hs h0 hB
  have e0 : IntKind.i64.wrap ((b : Int) - (a : Int)) = ((b - a : Nat) : Int) := wD (by omega) (by omega)
  by_cases h12 : b - a ≤ 12
  ·obtain ⟨h1, h2⟩ := insertionSort_holds swo_ltInt d a b hab hb
   refine ⟨insertionSort ltInt d a b, Yn ?_, h1, h2⟩
   simp only [ZR, e0, if_pos (show ((b - a : Nat) : Int) ≤ 12 by omega)]
   rw [ZnG d a b hb hab hs, Zj, Zs (by simp [h1.1]), Zs (by simp [h1.1, h0])]
  ·by_cases hl : lim = 0
   ·obtain ⟨h1, h2⟩ := heapSort_holds swo_ltInt d a b hab hb
    refine ⟨heapSort ltInt d a b, Yn ?_, h1, h2⟩
    simp only [ZR, e0, if_neg (show ¬ ((b - a : Nat) : Int) ≤ 12 by omega), if_pos hl]
    rw [Zm9 d a b hab hb hs, Zj, Zs (by simp [h1.1]), Zs (by simp [h1.1, h0])]
   ·-- the patterns
    obtain ⟨d1, lim1, hp1, hst1⟩ : ∃ (d1 : Array Int) (lim1 : Int), PermIn a b d d1 ∧ ZR l0 rf ((a : Int), (b : Int), lim, wb, wp, d.toList) = ZQ (a : Int) (b : Int) wb wp l0 rf lim1 d1.toList := by
     cases wb with
     | true => exact ⟨d, lim, permIn_refl d a b, by simp only [ZR, e0, if_neg (show ¬ ((b - a : Nat) : Int) ≤ 12 by omega), if_neg hl, not_true_eq_false, if_false]⟩
     | false =>
      obtain ⟨d1, hd1, hp1⟩ := Zng d a b hab hb hs
      refine ⟨d1, IntKind.i64.wrap (lim - 1), hp1, ?_⟩
      simp only [ZR, e0, if_neg (show ¬ ((b - a : Nat) : Int) ≤ 12 by omega), if_neg hl, Bool.false_eq_true, not_false_eq_true, if_true]
      rw [hd1, Zj, Zs (by simp [hp1.1])]
    have z1 := hp1.1
    obtain ⟨d2, pv, hint, hp2, hv1, hv2, hst2⟩ := ZnI l0 rf wb wp lim1 d1 a b (by omega) (by omega) (by omega)
    have z2 := hp2.1
    have hp12 := permIn_trans _ _ _ a b hp1 hp2
    have B2 : Below ltInt a b d2 := hB.perm hb hp12
    obtain ⟨d3, hp3, hst3⟩ := ZnJ l0 rf wb wp lim1 d2 a b pv hint (by omega) (by omega) (by omega) (by omega) B2
    have z3 := hp3.1
    have P3 := permIn_trans _ _ _ a b hp12 hp3
    have B3 : Below ltInt a b d3 := hB.perm hb P3
    have b3 : b ≤ d3.size := by omega
    have s3 : d3.size < 4611686018427387904 := by omega
    rcases hst3 with ⟨hst3, hS⟩ | hst3
    ·exact ⟨d3, Yn (by rw [hst1, hst2, hst3]), P3, hS⟩
    ·have hst := hst1.trans (hst2.trans hst3)
     have hpv : pv < d3.size := by omega
     clear hst1 hst2 hst3
     have hE : 0 < a → ltInt d3[a - 1]! d3[pv]! = false → ZR l0 rf ((a : Int), (b : Int), lim, wb, wp, d.toList) = ((ZW d3.toList (a : Int) (b : Int) (pv : Int)).bind fun y130 => (chk (y130.2.length = d3.toList.length)).bind fun _ => some (.inl (y130.1, (b : Int), lim1, wb, wp, y130.2))) := by
      intro ha hlt
      obtain ⟨a, rfl⟩ : ∃ q, a = q + 1 := ⟨a - 1, by omega⟩
      rw [show a + 1 - 1 = a by omega] at hlt
      have h1 : a < d3.size := by omega
      rw [hst, ZB]
      simp only [(show (0 : Int) < ((a + 1 : Nat) : Int) by omega), if_true, wP (show a < 9223372036854775807 by omega), iB h1, gB h1, iB hpv, gB hpv, Xv, sB, hlt, Bool.not_false, true_and]
     have hP : (0 < a → ltInt d3[a - 1]! d3[pv]! = true) → ZR l0 rf ((a : Int), (b : Int), lim, wb, wp, d.toList) = ((Yc d3.toList (a : Int) (b : Int) (pv : Int)).bind fun y132 => (chk (y132.2.2.length = d3.toList.length)).bind fun _ => (if IntKind.i64.wrap (y132.1 - (a : Int)) < IntKind.i64.wrap ((b : Int) - y132.1) then (rf y132.2.2 (a : Int) y132.1 lim1).bind fun y134 => (chk (y134.length = y132.2.2.length)).bind fun _ => some (.inl (IntKind.i64.wrap (y132.1 + 1), (b : Int), lim1, decide (IntKind.i64.wrap ((IntKind.i64.wrap ((b : Int) - (a : Int))).tdiv 8) ≤ IntKind.i64.wrap (y132.1 - (a : Int))), y132.2.1, y134)) else (rf y132.2.2 (IntKind.i64.wrap (y132.1 + 1)) (b : Int) lim1).bind fun y136 => (chk (y136.length = y132.2.2.length)).bind fun _ => some (.inl ((a : Int), y132.1, lim1, decide (IntKind.i64.wrap ((IntKind.i64.wrap ((b : Int) - (a : Int))).tdiv 8) ≤ IntKind.i64.wrap ((b : Int) - y132.1)), y132.2.1, y136)))) := by
      intro hlt
      rw [hst, ZB]
      by_cases ha : 0 < a
      ·have hlt := hlt ha
       obtain ⟨a, rfl⟩ : ∃ q, a = q + 1 := ⟨a - 1, by omega⟩
       rw [show a + 1 - 1 = a by omega] at hlt
       have h1 : a < d3.size := by omega
       simp only [(show (0 : Int) < ((a + 1 : Nat) : Int) by omega), if_true, wP (show a < 9223372036854775807 by omega), iB h1, gB h1, iB hpv, gB hpv, Xv, sB, hlt, Bool.not_true, true_and, Bool.false_eq_true, if_false]
      ·simp only [(show ¬ (0 : Int) < (a : Int) by omega), if_false, sB, false_and]
     by_cases hc : 0 < a ∧ ltInt d3[a - 1]! d3[pv]! = false
     ·-- equal elements
      obtain ⟨ha, hlt⟩ := hc
      obtain ⟨g1, g2, g3, g4, g5⟩ := round_eq (mid := (partitionEqual ltInt d3 a b pv).1) (d4 := (partitionEqual ltInt d3 a b pv).2) swo_ltInt (partitionEqual_holds ltInt) ha hv1 hv2 b3 B3 hlt rfl
      have hst' := hE ha hlt
      rw [ZoW d3 a b pv hv1 hv2 b3 s3, Zj, Zs (by simp [g3])] at hst'
      obtain ⟨R, h1, h2, h3⟩ := ih (b - (partitionEqual ltInt d3 a b pv).1) (by omega) (partitionEqual ltInt d3 a b pv).1 b (partitionEqual ltInt d3 a b pv).2 lim1 wb wp rfl (by omega) g2 (by omega) (by omega) (by omega) g4
      obtain ⟨k1, k2⟩ := g5 R h2 h3
      exact ⟨R, (ZZ hst').trans h1, permIn_trans _ _ _ a b P3 k1, k2⟩
     ·have hst' := hP (fun ha => by
       cases hx : ltInt d3[a - 1]! d3[pv]! with
       | true => rfl
       | false => exact absurd ⟨ha, hx⟩ hc)
      obtain ⟨g1, g2, g3, g4, g5, g6, g7⟩ := round_part (mid := (partition ltInt d3 a b pv).1) (ap := (partition ltInt d3 a b pv).2.1) (d4 := (partition ltInt d3 a b pv).2.2) swo_ltInt (partition_holds ltInt) hv1 hv2 b3 B3 rfl
      rw [ZoZ d3 a b pv hv1 hv2 b3 s3, Zj, Zs (by simp [g3])] at hst'
      generalize (partition ltInt d3 a b pv).1 = mid at g1 g2 g4 g5 g6 g7 hst'
      generalize (partition ltInt d3 a b pv).2.1 = ap at hst'
      generalize (partition ltInt d3 a b pv).2.2 = d4 at g3 g4 g5 g6 g7 hst'
      simp only [wD g1 (show mid < 9223372036854775808 by omega), wD (show mid ≤ b by omega) (show b < 9223372036854775808 by omega), wS (show mid < 9223372036854775807 by omega)] at hst'
      by_cases hlr : mid - a < b - mid
      ·rw [if_pos (by omega)] at hst'
       obtain ⟨L, l1, l2, l3⟩ := hrf a mid d4 lim1 (by omega) g1 (by omega) (by omega) g4
       rw [l1, Zj, Zs (by simp [l2.1])] at hst'
       obtain ⟨k1, k2⟩ := g6 L l2 l3
       have zl := l2.1
       obtain ⟨R, h1, h2, h3⟩ := ih (b - (mid + 1)) (by omega) (mid + 1) b L lim1 _ ap rfl (by omega) (by omega) (by omega) (by omega) (by omega) k1
       obtain ⟨q1, q2⟩ := k2 R h2 h3
       exact ⟨R, (ZZ hst').trans h1, permIn_trans _ _ _ a b P3 q1, q2⟩
      ·rw [if_neg (by omega)] at hst'
       obtain ⟨L, l1, l2, l3⟩ := hrf (mid + 1) b d4 lim1 (by omega) (by omega) (by omega) (by omega) g5
       rw [l1, Zj, Zs (by simp [l2.1])] at hst'
       obtain ⟨k1, k2⟩ := g7 L l2 l3
       have zl := l2.1
       obtain ⟨R, h1, h2, h3⟩ := ih (mid - a) (by omega) a mid L lim1 _ ap rfl (by omega) (by omega) (by omega) (by omega) (by omega) k1
       obtain ⟨q1, q2⟩ := k2 R h2 h3
       exact ⟨R, (ZZ hst').trans h1, permIn_trans _ _ _ a b P3 q1, q2⟩
theorem pdq_n : ∀ (n a b : Nat) (d : Array Int) (lim : Int), b - a < n → a ≤ b → b ≤ d.size → d.size < 4611686018427387904 → Below ltInt a b d → Srt a b d (Lslices_pdqsortOrdered_of_uint64_n n d.toList (a : Int) (b : Int) lim) := by
 intro n
 induction n with
 | zero => intro a b d lim h; omega
 | succ n ih =>
  intro a b d lim h hab hb hs hB
  rw [Lslices_pdqsortOrdered_of_uint64_n, YJ]
  exact Zmf (Lslices_pdqsortOrdered_of_uint64_n n) d.toList n (fun a b d lim h1 h2 h3 h4 h5 => ih a b d lim h1 h2 h3 h4 h5) _ a b d lim true true rfl (by omega) hab hb hs (by simp) hB
theorem Zcv {α β : Type} {x : Option α} {f g : α → Option β} {b : β} (h : x.bind f = some b) (k : ∀ a, f a = some b → g a = some b) : x.bind g = some b := by
 cases x with
 | none => cases h
 | some a => exact k a h
theorem Zkb {σ ρ : Type} {step step' : σ → Option (σ ⊕ ρ)} (h : ∀ s r, step s = some r → step' s = some r) : ∀ (m : Nat) (s : σ) (r : ρ), Zbd step m s = some r → Zbd step' m s = some r := by
 intro m
 induction m with
 | zero => intro s r hr; simp [Zbd] at hr
 | succ m ih =>
  intro s r hr
  simp only [Zbd] at hr ⊢
  cases hs : step s with
  | none => simp [hs] at hr
  | some x =>
   rw [hs] at hr
   rw [h s x hs]
   cases x with
   | inl s' => exact ih s' r hr
   | inr r' => exact hr
theorem ZiB {σ ρ : Type} {step step' : σ → Option (σ ⊕ ρ)} (h : ∀ s r, step s = some r → step' s = some r) {s : σ} {r : ρ} (hr : Zr step s = some r) : Zr step' s = some r := by
 obtain ⟨m, hm⟩ := ZbI.1 hr
 exact ZbI.2 ⟨m, Zkb h m s r hm⟩
theorem Zmg {rf rf' : List Int → Int → Int → Int → Option (List Int)} (h : ∀ l a b c x, rf l a b c = some x → rf' l a b c = some x) {l : List Int} {a b c : Int} {x : List Int} (hx : YJ rf l a b c = some x) : YJ rf' l a b c = some x := by
 have h3 : ∀ p101 p118 p102 p113 p104 p105 p123 r, ZB p101 p118 p102 p113 p104 p105 rf p123 = some r → ZB p101 p118 p102 p113 p104 p105 rf' p123 = some r := by
  intro p101 p118 p102 p113 p104 p105 p123 r hr
  unfold ZB at hr ⊢
  refine Zcv hr fun z hr => ?_
  split
  ·rename_i g
   rw [if_pos g] at hr
   exact hr
  ·rename_i g
   rw [if_neg g] at hr
   refine Zcv hr fun y hr => Zcv hr fun _ hr => ?_
   split
   ·rename_i g
    rw [if_pos g] at hr
    cases hq : rf y.2.2 p101 y.1 p113 with
    | none => rw [hq] at hr; cases hr
    | some w => rw [hq] at hr; rw [h _ _ _ _ _ hq]; exact hr
   ·rename_i g
    rw [if_neg g] at hr
    cases hq : rf y.2.2 (IntKind.i64.wrap (y.1 + 1)) p102 p113 with
    | none => rw [hq] at hr; cases hr
    | some w => rw [hq] at hr; rw [h _ _ _ _ _ hq]; exact hr
 have h2 : ∀ p104 p105 p101 p102 a0 p113 p118 p119 p120 r, ZC p104 p105 p101 p102 a0 p113 rf p118 p119 p120 = some r → ZC p104 p105 p101 p102 a0 p113 rf' p118 p119 p120 = some r := by
  intro p104 p105 p101 p102 a0 p113 p118 p119 p120 r hr
  unfold ZC at hr ⊢
  split
  ·rename_i g
   rw [if_pos g] at hr
   refine Zcv hr fun y hr => Zcv hr fun _ hr => ?_
   split
   ·rename_i g
    rw [if_pos g] at hr
    exact hr
   ·rename_i g
    rw [if_neg g] at hr
    exact h3 _ _ _ _ _ _ _ _ hr
  ·rename_i g
   rw [if_neg g] at hr
   exact h3 _ _ _ _ _ _ _ _ hr
 have h1 : ∀ p101 p102 p104 p105 a0 p113 p114 r, ZQ p101 p102 p104 p105 a0 rf p113 p114 = some r → ZQ p101 p102 p104 p105 a0 rf' p113 p114 = some r := by
  intro p101 p102 p104 p105 a0 p113 p114 r hr
  unfold ZQ at hr ⊢
  refine Zcv hr fun y hr => ?_
  split
  ·rename_i g
   rw [if_pos g] at hr
   exact Zcv hr fun y hr => Zcv hr fun _ hr => h2 _ _ _ _ _ _ _ _ _ _ hr
  ·rename_i g
   rw [if_neg g] at hr
   exact h2 _ _ _ _ _ _ _ _ _ _ hr
 unfold YJ at hx ⊢
 refine ZiB ?_ hx
 rintro ⟨p101, p102, p103, p104, p105, p106⟩ r hr
 simp only [ZR] at hr ⊢
 split
 ·rename_i g
  rw [if_pos g] at hr
  exact hr
 ·rename_i g
  rw [if_neg g] at hr
  split
  ·rename_i g
   rw [if_pos g] at hr
   exact hr
  ·rename_i g
   rw [if_neg g] at hr
   split
   ·rename_i g
    rw [if_pos g] at hr
    exact Zcv hr fun y hr => Zcv hr fun _ hr => h1 _ _ _ _ _ _ _ _ hr
   ·rename_i g
    rw [if_neg g] at hr
    exact h1 _ _ _ _ _ _ _ _ hr
theorem pdq_n_more : ∀ (n k : Nat) (l : List Int) (a b c : Int) (x : List Int), Lslices_pdqsortOrdered_of_uint64_n n l a b c = some x → Lslices_pdqsortOrdered_of_uint64_n (n + k) l a b c = some x := by
 intro n
 induction n with
 | zero => intro k l a b c x h; simp [Lslices_pdqsortOrdered_of_uint64_n] at h
 | succ n ih =>
  intro k l a b c x h
  rw [show n + 1 + k = n + k + 1 by omega]
  rw [Lslices_pdqsortOrdered_of_uint64_n] at h ⊢
  exact Zmg (fun l a b c x h => ih k l a b c x h) h
theorem Zhx {α : Type} {g : Nat → Option α} (h : ∀ n k x, g n = some x → g (n + k) = some x) {n : Nat} {y : α} (hn : g n = some y) : ZfH g = some y :=
 Zm3 (fun m x hx => by
  have h1 := h m n x hx
  have h2 := h n m y hn
  rw [Nat.add_comm, h2] at h1
  exact (Option.some.inj h1).symm) ⟨n, hn⟩
def srt (l : List Int) : List Int := l.mergeSort fun x y => decide (x ≤ y)
theorem Zbe (l : List Int) : (srt l).length = l.length := List.length_mergeSort _
theorem Znh (l : List Int) (hs : l.length < 4611686018427387904) : YK l = some (srt l) := by
 obtain ⟨d', h1, h2, h3⟩ := pdq_n (l.length + 1) 0 l.length l.toArray (Lib.bitLen l.length : Int) (by omega) (by omega) (by simp) (by simpa using hs) (.inl rfl)
 have hu := sorted_unique_holds swo_ltInt (fun x y h1 h2 => by simp only [ltInt, decide_eq_false_iff_not] at h1 h2; omega) l.toArray d' (by simpa using h2) (by simpa using h3)
 have hd : d'.toList = srt l := by
  rw [hu, srt]
  show l.mergeSort _ = _
  congr 1
  funext x y
  simp [ltInt]
  by_cases h : x ≤ y
  ·simp [h]
   try omega
  ·simp [h]
   try omega
 rw [hd] at h1
 have hf : Xx l 0 (l.length : Int) (Lib.bitLen l.length : Int) = some (srt l) := Zhx (g := fun n => Lslices_pdqsortOrdered_of_uint64_n n l 0 (l.length : Int) (Lib.bitLen l.length : Int)) (fun n k x h => pdq_n_more n k _ _ _ _ _ h) h1
 rw [YK, ZgW (by omega), Zk0 (by omega), Zj, show ((l.length : Int)).toNat = l.length by omega, hf, Zj, Zs (Zbe l), Zs (Zbe l)]
end Go.Lc
end
section
namespace Go.Lc
open Go.RowKit
open Go.Av
set_option linter.unusedVariables false
set_option linter.unusedSimpArgs false
set_option maxRecDepth 100000
def bb (x : Int) (k : Nat) : Bool := decide ((x / 2 ^ (7 - k)) % 2 = 1)
def bt (d : List Int) (i : Nat) : Bool := bb (d.getD (i / 8) 0) (i % 8)
def bl (d : List Int) (n : Nat) : List Bool := (List.range n).map (bt d)
def Byt (d : List Int) : Prop := ∀ x ∈ d, 0 ≤ x ∧ x ≤ 255
structure VB (d : List Int) (n : Nat) : Prop where
 byt : Byt d
 len : d.length = (n + 7) / 8
 rest : ∀ i, n ≤ i → bt d i = false
theorem Zju (k : Nat) : bb 0 k = false := by simp [bb]
theorem Byt.get {d : List Int} (h : Byt d) (i : Nat) : 0 ≤ d.getD i 0 ∧ d.getD i 0 ≤ 255 := by
 rw [List.getD_eq_getElem?_getD]
 by_cases hi : i < d.length
 ·simp only [List.getElem?_eq_getElem hi, Option.getD_some]
  exact h _ (List.getElem_mem hi)
 ·simp [List.getElem?_eq_none (Nat.le_of_not_lt hi)]
theorem byte_sum : ∀ x : Fin 256, (x.val : Int) = (if bb x.val 0 then 128 else 0) + (if bb x.val 1 then 64 else 0) + (if bb x.val 2 then 32 else 0) + (if bb x.val 3 then 16 else 0) + (if bb x.val 4 then 8 else 0) + (if bb x.val 5 then 4 else 0) + (if bb x.val 6 then 2 else 0) + (if bb x.val 7 then 1 else 0) := by decide +kernel
theorem Zmh {x y : Int} (hx : 0 ≤ x ∧ x ≤ 255) (hy : 0 ≤ y ∧ y ≤ 255) (h : ∀ k, k < 8 → bb x k = bb y k) : x = y := by
 obtain ⟨a, rfl⟩ : ∃ a : Fin 256, x = (a.val : Int) := ⟨⟨x.toNat, by omega⟩, by simp only; omega⟩
 obtain ⟨b, rfl⟩ : ∃ a : Fin 256, y = (a.val : Int) := ⟨⟨y.toNat, by omega⟩, by simp only; omega⟩
 rw [byte_sum a, byte_sum b, h 0 (by omega), h 1 (by omega), h 2 (by omega), h 3 (by omega), h 4 (by omega), h 5 (by omega), h 6 (by omega), h 7 (by omega)]
theorem Zk1 {d d' : List Int} {n : Nat} (h : VB d n) (h' : VB d' n) (e : bl d n = bl d' n) : d = d' := by
 have hb : ∀ i, bt d i = bt d' i := by
  intro i
  by_cases hi : i < n
  ·have := congrArg (fun l => l[i]?) e
   simpa [bl, hi] using this
  ·rw [h.rest i (by omega), h'.rest i (by omega)]
 apply List.ext_getElem (by rw [h.len, h'.len])
 intro i h1 h2
 have g1 : d.getD i 0 = d[i] := by simp [List.getD_eq_getElem?_getD, h1]
 have g2 : d'.getD i 0 = d'[i] := by simp [List.getD_eq_getElem?_getD, h2]
 refine Zmh (h.byt _ (List.getElem_mem h1)) (h'.byt _ (List.getElem_mem h2)) fun k hk => ?_
 have := hb (8 * i + k)
 simp only [bt, show (8 * i + k) / 8 = i by omega, show (8 * i + k) % 8 = k by omega, g1, g2] at this
 exact this
theorem or_byte : ∀ (x : Fin 256) (k j : Fin 8), bb (bits .or .u8 (x.val : Int) (2 ^ (7 - k.val))) j.val = (decide (j = k) || bb (x.val : Int) j.val) := by decide +kernel
theorem or_range : ∀ (x : Fin 256) (k : Fin 8), 0 ≤ bits .or .u8 (x.val : Int) (2 ^ (7 - k.val)) ∧ bits .or .u8 (x.val : Int) (2 ^ (7 - k.val)) ≤ 255 := by decide +kernel
def nd (d : List Int) (n : Nat) (b : Bool) : List Int :=
 let d1 := if n % 8 = 0 then d ++ [0] else d
 if b = true then d1.set (n / 8) (bits .or .u8 (d1.getD (n / 8) 0) (2 ^ (7 - n % 8))) else d1
theorem Zk2 (d : List Int) (q : Nat) : (d ++ [0]).getD q 0 = d.getD q 0 := by
 simp only [List.getD_eq_getElem?_getD]
 by_cases h : q < d.length
 ·rw [List.getElem?_append_left h]
 ·rw [List.getElem?_append_right (by omega), List.getElem?_eq_none (Nat.le_of_not_lt h)]
  rcases Nat.eq_zero_or_pos (q - d.length) with h0 | h0
  ·rw [h0]; rfl
  ·rw [List.getElem?_eq_none (by simp; omega)]
theorem Zmi (d : List Int) (p q : Nat) (x : Int) (h : p < d.length) : (d.set p x).getD q 0 = if q = p then x else d.getD q 0 := by
 simp only [List.getD_eq_getElem?_getD, List.getElem?_set]
 by_cases e : q = p
 ·subst e; simp [h]
 ·simp [e, Ne.symm e]
theorem Zni {d : List Int} {n : Nat} (b : Bool) (h : VB d n) : VB (nd d n b) (n + 1) ∧ bl (nd d n b) (n + 1) = bl d n ++ [b] := by
 have hlen := h.len
 have hd1 : ∃ d1, d1 = (if n % 8 = 0 then d ++ [0] else d) ∧ d1.length = (n + 8) / 8 ∧ (∀ q, d1.getD q 0 = d.getD q 0) ∧ Byt d1 := by
  refine ⟨_, rfl, ?_, ?_, ?_⟩
  ·split
   ·simp; omega
   ·omega
  ·intro q
   split
   ·exact Zk2 d q
   ·rfl
  ·split
   ·intro x hx
    simp only [List.mem_append, List.mem_singleton] at hx
    rcases hx with hx | rfl
    ·exact h.byt x hx
    ·omega
   ·exact h.byt
 obtain ⟨d1, e1, l1, g1, y1⟩ := hd1
 have hn8 : n / 8 < d1.length := by omega
 have hx := y1.get (n / 8)
 have hbt : ∀ i, bt (nd d n b) i = if i = n then b else bt d i := by
  intro i
  unfold nd
  rw [← e1]
  simp only
  cases b with
  | false =>
   simp only [Bool.false_eq_true, if_false, bt, g1]
   split
   ·rename_i e
    subst e
    exact h.rest i (Nat.le_refl _)
   ·rfl
  | true =>
   simp only [if_true, bt]
   rw [Zmi _ _ _ _ hn8]
   obtain ⟨x, hxe⟩ : ∃ x : Fin 256, d1.getD (n / 8) 0 = (x.val : Int) := ⟨⟨(d1.getD (n / 8) 0).toNat, by omega⟩, by simp only; omega⟩
   have ho := or_byte x ⟨n % 8, Nat.mod_lt _ (by omega)⟩ ⟨i % 8, Nat.mod_lt _ (by omega)⟩
   simp only at ho
   by_cases e : i / 8 = n / 8
   ·rw [if_pos e, hxe, ho, e, ← g1, hxe]
    by_cases e2 : i = n
    ·subst e2; simp
    ·rw [if_neg e2, show (decide ((⟨i % 8, Nat.mod_lt _ (by omega)⟩ : Fin 8) = ⟨n % 8, Nat.mod_lt _ (by omega)⟩)) = false by simp; omega]
     simp
   ·rw [if_neg e, if_neg (by intro e2; exact e (by rw [e2])), g1]
 have hl2 : (nd d n b).length = d1.length := by
  unfold nd
  rw [← e1]
  simp only
  split <;> simp
 refine ⟨⟨?_, ?_, ?_⟩, ?_⟩
 ·unfold nd
  rw [← e1]
  simp only
  split
  ·intro x hx'
   rcases List.mem_or_eq_of_mem_set hx' with hm | rfl
   ·exact y1 x hm
   ·obtain ⟨x, hxe⟩ : ∃ x : Fin 256, d1.getD (n / 8) 0 = (x.val : Int) := ⟨⟨(d1.getD (n / 8) 0).toNat, by omega⟩, by simp only; omega⟩
    rw [hxe]
    exact or_range x ⟨n % 8, Nat.mod_lt _ (by omega)⟩
  ·exact y1
 ·rw [hl2, l1]
 ·intro i hi
  rw [hbt, if_neg (by omega)]
  exact h.rest i (by omega)
 ·unfold bl
  rw [List.range_succ, List.map_append]
  congr 1
  ·apply List.map_congr_left
   intro i hi
   rw [hbt, if_neg (by have := List.mem_range.1 hi; omega)]
  ·simp [hbt]
theorem sh_prog : ∀ k : Fin 8, (128 : Int).fdiv (2 ^ (min k.val 8)) = 2 ^ (7 - k.val) := by decide +kernel
theorem sh_ref : ∀ k : Fin 8, IntKind.u8.wrap (1 * (2 ^ (min (7 - k.val) 8))) = 2 ^ (7 - k.val) := by decide +kernel
theorem Zfi (n : Nat) : ((n : Int)).tmod 8 = ((n % 8 : Nat) : Int) := by rw [Int.tmod_eq_emod_of_nonneg (by omega)]; omega
theorem ZfY (n : Nat) : ((n : Int)).tdiv 8 = ((n / 8 : Nat) : Int) := by rw [Int.tdiv_eq_ediv_of_nonneg (by omega)]; omega
theorem gD {β : Type} {d : List Int} {i : Nat} {f : Int → Option β} (h : i < d.length) : (d[i]?).bind f = f (d.getD i 0) := by
 rw [Zc3 h]
 simp [List.getD_eq_getElem?_getD, h]
theorem ZiC {d : List Int} {n : Nat} (b : Bool) (h : VB d n) (hn : n ≤ 2000000) : Xl (d, (n : Int)) b = some (nd d n b, ((n + 1 : Nat) : Int)) := by
 have hlen := h.len
 have hk1 : ∀ d1 : List Int, n / 8 < d1.length → Xn b (d, (n : Int)) d1 = some (if b = true then d1.set (n / 8) (bits .or .u8 (d1.getD (n / 8) 0) (2 ^ (7 - n % 8))) else d1, ((n + 1 : Nat) : Int)) := by
  intro d1 h1
  have hs := sh_prog ⟨n % 8, Nat.mod_lt _ (by omega)⟩
  simp only at hs
  cases b with
  | true =>
   simp only [Xn, XC, if_true, ZfY, Zfi, wI (n / 8) (by omega), wS (show n < 9223372036854775807 by omega)]
   rw [Za4 h1, gD h1, Zs (by omega), show (((n % 8 : Nat) : Int)).toNat = n % 8 by omega, hs]
  | false => simp only [Xn, XC, Bool.false_eq_true, if_false, wS (show n < 9223372036854775807 by omega)]
 simp only [Xl, Zfi]
 unfold nd
 by_cases h0 : n % 8 = 0
 ·rw [if_pos (by omega), if_pos h0, Zs (by omega), hk1 _ (by simp; omega)]
 ·rw [if_neg (by omega), if_neg h0, hk1 _ (by omega)]
theorem Zhc {d : List Int} {n : Nat} (b : Bool) (h : VB d n) (hn : n ≤ 2000000) : ZaQ (d, (n : Int)) b = some (nd d n b, ((n + 1 : Nat) : Int)) := by
 have hlen := h.len
 have hk1 : ∀ d1 : List Int, n / 8 < d1.length → Zay b (d, (n : Int)) d1 = some (if b = true then d1.set (n / 8) (bits .or .u8 (d1.getD (n / 8) 0) (2 ^ (7 - n % 8))) else d1, ((n + 1 : Nat) : Int)) := by
  intro d1 h1
  have hs := sh_ref ⟨n % 8, Nat.mod_lt _ (by omega)⟩
  simp only at hs
  have e7 : IntKind.i64.wrap (7 - ((n % 8 : Nat) : Int)) = ((7 - n % 8 : Nat) : Int) := by rw [wi _ (by omega)]; omega
  cases b with
  | true =>
   simp only [Zay, Za3, if_true, ZfY, Zfi, wI (n / 8) (by omega), wS (show n < 9223372036854775807 by omega), e7]
   rw [Za4 h1, gD h1, Zs (by omega), show (((7 - n % 8 : Nat) : Int)).toNat = 7 - n % 8 by omega, hs]
  | false => simp only [Zay, Za3, Bool.false_eq_true, if_false, wS (show n < 9223372036854775807 by omega)]
 simp only [ZaQ, Zfi]
 unfold nd
 by_cases h0 : n % 8 = 0
 ·rw [if_pos (by omega), if_pos h0, Zs (by omega), hk1 _ (by simp; omega)]
 ·rw [if_neg (by omega), if_neg h0, hk1 _ (by omega)]
end Go.Lc
end
section
namespace Go.Lc
open Go.RowKit
open Go.Av
set_option linter.unusedVariables false
def ZfL (n : Int) (k : Nat) : List Int := (List.range k).map fun i => IntKind.u8.wrap (n.fdiv (2 ^ (8 * i)))
@[simp] theorem ZpP (n : Int) (k : Nat) : (ZfL n k).length = k := by simp [ZfL]
theorem Znj {i : Nat} (h : i < 8) : min (IntKind.i64.wrap (8 * (i : Int))).toNat 64 = 8 * i := by
 rw [wi _ (by omega)]
 omega
theorem Zk3 (n : Int) (k : Nat) (hk : k ≤ 8) : ZcN n k = some (ZfL n k) := by
 unfold ZcN
 rw [Zs (by omega)]
 have := Zka (step := ZbT k n) (fun i => ((i : Int), ((List.range i).map fun i => IntKind.u8.wrap (n.fdiv (2 ^ (8 * i)))) ++ List.replicate (k - i) 0)) k (x := some (ZfL n k)) (fun i hi => by
  simp only [ZbT]
  rw [if_pos (by omega), Zs (by rw [wi _ (by omega)]; omega), Zmc _ _ (by omega), Za4 hi, Znj (by omega), ZkW (fun i => IntKind.u8.wrap (n.fdiv (2 ^ (8 * i)))) 0 hi, Zm7 hi (by omega)]) (by
  simp only [ZbT]
  rw [if_neg (by omega)]
  simp [Zem, ZfL])
 simpa using this
theorem Zhy {a b : List Int} (h : a.length + b.length ≤ 140737488355328) : ZcM a b = some (a ++ b) := by
 unfold ZcM
 rw [wi _ (by omega), Zs (by omega), Zs (by omega), Zs (by omega)]
theorem Zk4 {a b : List Int} (h : a.length + b.length ≤ 140737488355328) : Zaw a b = some (a ++ b) := by
 unfold Zaw
 rw [wi _ (by omega), Zs (by omega), Zs (by omega), Zs (by omega)]
section
variable {b : List Int} {n : Int}
theorem ZnK (h : b.length ≤ 140737488355000) : ZcT b n = some (b ++ ZfL (IntKind.u64.wrap n) 4) := by
 unfold ZcT
 have this : ZcN (IntKind.u64.wrap n) 4 = some (ZfL (IntKind.u64.wrap n) 4) := Zk3 _ 4 (by omega)
 rw [this, Zj, Zhy (by simp; omega)]
 rfl
end
theorem Znk {b : List Int} {a : Arr 32} (h : b.length ≤ 140737488355000) : Zcy b a = some (b ++ a.l) := by
 unfold Zcy
 rw [Zhy (by rw [a.hl]; omega)]
 rfl
def ZiD (o : Tapi_OutPoint) : List Int := o.1.l ++ ZfL (IntKind.u64.wrap o.2) 4
@[simp] theorem Zo3 (o : Tapi_OutPoint) : (ZiD o).length = 36 := by simp [ZiD, o.1.hl]
theorem ZpQ (o : Tapi_OutPoint) : Zhu o = some (ZiD o) := by
 unfold Zhu
 rw [Znk (by simp), Zj, ZnK (by simp [o.1.hl])]
 rfl
end Go.Lc
end
section
namespace Go.Lc
open Go.RowKit
open Go.Av
set_option linter.unusedVariables false
set_option linter.unusedSimpArgs false
set_option maxRecDepth 100000
theorem mask_byte : ∀ (x : Fin 256) (k : Fin 8), (∀ j : Fin 8, k ≤ j → bb (x.val : Int) j.val = false) → bits .and .u8 (x.val : Int) ((255 : Int).fdiv (2 ^ (min k.val 8))) = 0 := by decide +kernel
theorem nlen (n : Nat) (hn : n ≤ 2000000) : IntKind.i64.wrap ((IntKind.i64.wrap ((n : Int) + 7)).tdiv 8) = (((n + 7) / 8 : Nat) : Int) := by
 rw [wi ((n : Int) + 7) (by omega), show (n : Int) + 7 = ((n + 7 : Nat) : Int) by omega, ZfY, wI _ (by omega)]
theorem Zgv {d : List Int} {n : Nat} (h : VB d n) (hn : n ≤ 1600000) : Zan (d, (n : Int)) = some true := by
 have hlen := h.len
 simp only [Zan, nlen n (by omega), Zfi]
 rw [if_neg (by omega)]
 by_cases h0 : n % 8 = 0
 ·rw [if_pos (by omega), Zj]
  simp [h0]
 ·have hl : d.length - 1 < d.length := by omega
  have hx := h.byt.get (d.length - 1)
  rw [if_neg (by omega), show IntKind.i64.wrap ((d.length : Int) - 1) = ((d.length - 1 : Nat) : Int) by rw [wi _ (by omega)]; omega, YM hl, Zs (by omega), Zj, show (((n % 8 : Nat) : Int)).toNat = n % 8 by omega]
  obtain ⟨x, hxe⟩ : ∃ x : Fin 256, d.getD (d.length - 1) 0 = (x.val : Int) := ⟨⟨(d.getD (d.length - 1) 0).toNat, by omega⟩, by simp only; omega⟩
  have hg : d[d.length - 1] = (x.val : Int) := by rw [← hxe]; simp [List.getD_eq_getElem?_getD, hl]
  have hm := mask_byte x ⟨n % 8, Nat.mod_lt _ (by omega)⟩ (fun j hj => by
   have := h.rest (8 * (d.length - 1) + j.val) (by have : n % 8 ≤ j.val := hj; omega)
   rw [bt, show (8 * (d.length - 1) + j.val) / 8 = d.length - 1 by omega, show (8 * (d.length - 1) + j.val) % 8 = j.val by omega, hxe] at this
   exact this)
  simp only at hm
  rw [hg, hm]
  simp
theorem and1_byte : ∀ (x : Fin 256) (k : Fin 8), decide (bits .and .u8 ((x.val : Int).fdiv (2 ^ (min (7 - k.val) 8))) 1 = 1) = bb (x.val : Int) k.val := by decide +kernel
theorem and128_byte : ∀ (x : Fin 256) (k : Fin 8), (!decide (bits .and .u8 (x.val : Int) ((128 : Int).fdiv (2 ^ (min k.val 8))) = 0)) = bb (x.val : Int) k.val := by decide +kernel
theorem ZiE {d : List Int} {i : Nat} {n : Int} (h : Byt d) (hi : i < 8 * d.length) (hs : i ≤ 4000000) : ZbA (d, n) (i : Int) = some (bt d i) := by
 have hl : i / 8 < d.length := by omega
 have hx := h.get (i / 8)
 obtain ⟨x, hxe⟩ : ∃ x : Fin 256, d.getD (i / 8) 0 = (x.val : Int) := ⟨⟨(d.getD (i / 8) 0).toNat, by omega⟩, by simp only; omega⟩
 have hg : d[i / 8] = (x.val : Int) := by rw [← hxe]; simp [List.getD_eq_getElem?_getD, hl]
 simp only [ZbA, Zfi, ZfY, wI (i / 8) (by omega)]
 rw [YM hl, Zs (by omega), show (((i % 8 : Nat) : Int)).toNat = i % 8 by omega, hg, bt, hxe]
 have := and128_byte x ⟨i % 8, Nat.mod_lt _ (by omega)⟩
 simp only at this
 rw [this]
theorem ZfZ {d : List Int} {i : Nat} {n : Int} (h : Byt d) (hi : i < 8 * d.length) (hs : i ≤ 4000000) : ZaP (d, n) (i : Int) = some (bt d i) := by
 have hl : i / 8 < d.length := by omega
 have hx := h.get (i / 8)
 obtain ⟨x, hxe⟩ : ∃ x : Fin 256, d.getD (i / 8) 0 = (x.val : Int) := ⟨⟨(d.getD (i / 8) 0).toNat, by omega⟩, by simp only; omega⟩
 have hg : d[i / 8] = (x.val : Int) := by rw [← hxe]; simp [List.getD_eq_getElem?_getD, hl]
 have e7 : IntKind.i64.wrap (7 - ((i % 8 : Nat) : Int)) = ((7 - i % 8 : Nat) : Int) := by rw [wi _ (by omega)]; omega
 simp only [ZaP, Zfi, ZfY, wI (i / 8) (by omega), e7]
 rw [YM hl, Zs (by omega), show (((7 - i % 8 : Nat) : Int)).toNat = 7 - i % 8 by omega, hg, bt, hxe]
 have := and1_byte x ⟨i % 8, Nat.mod_lt _ (by omega)⟩
 simp only at this
 rw [this]
theorem ZfM {d : List Int} {n : Nat} (h : VB d n) (hn : n ≤ 1600000) : X5 (d, (n : Int)) = some true := by
 have hlen := h.len
 simp only [X5, nlen n (by omega)]
 rw [if_neg (by omega)]
 obtain ⟨r, h1, rfl⟩ := YE (step := Zbx (d, (n : Int))) (fun m (s : Int) => ∃ i : Nat, s = (i : Int) ∧ n ≤ i ∧ i ≤ 8 * d.length ∧ m = 8 * d.length - i) (fun r => r = true) (by
  rintro m s ⟨i, rfl, h1, h2, rfl⟩
  have e8 : IntKind.i64.wrap (8 * (d.length : Int)) = ((8 * d.length : Nat) : Int) := by rw [wi _ (by omega)]; omega
  by_cases hi : i < 8 * d.length
  ·refine .inl ⟨8 * d.length - (i + 1), ((i + 1 : Nat) : Int), by omega, ?_, i + 1, rfl, by omega, by omega, rfl⟩
   simp only [Zbx, e8, if_pos (show (i : Int) < ((8 * d.length : Nat) : Int) by omega)]
   rw [ZfZ h.byt hi (by omega), Zj, h.rest i h1, if_neg (by simp), wS (by omega)]
  ·refine .inr ⟨true, ?_, rfl⟩
   simp only [Zbx, e8, if_neg (show ¬ (i : Int) < ((8 * d.length : Nat) : Int) by omega), Lref18_Valid_k1]
   rfl) _ (n : Int) ⟨n, rfl, Nat.le_refl _, by omega, rfl⟩
 exact h1
def Wr (d : List Int) (n : Nat) (B : List Bool) (x : List Int × Int) : Prop := x.2 = ((n + B.length : Nat) : Int) ∧ VB x.1 (n + B.length) ∧ bl x.1 (n + B.length) = bl d n ++ B
theorem Wr.nil {d : List Int} {n : Nat} (h : VB d n) : Wr d n [] (d, (n : Int)) := ⟨rfl, by simpa using h, by simp⟩
theorem Wr.snoc {d d' : List Int} {n m : Nat} {B : List Bool} (b : Bool) (h : Wr d n B (d', (m : Int))) : Wr d n (B ++ [b]) (nd d' m b, ((m + 1 : Nat) : Int)) := by
 obtain ⟨h1, h2, h3⟩ := h
 have e : m = n + B.length := by simp only at h1; omega
 subst e
 obtain ⟨g1, g2⟩ := Zni b h2
 simp only at h3
 refine ⟨by simp; omega, by simpa [Nat.add_assoc] using g1, ?_⟩
 rw [show n + (B ++ [b]).length = n + B.length + 1 by simp; omega]
 show bl (nd d' (n + B.length) b) _ = _
 rw [g2, h3, List.append_assoc]
theorem Wr.vb {d d' : List Int} {n m : Nat} {B : List Bool} (h : Wr d n B (d', (m : Int))) : VB d' m ∧ m = n + B.length := by
 obtain ⟨h1, h2, _⟩ := h
 have e : m = n + B.length := by simp only at h1; omega
 subst e
 exact ⟨h2, rfl⟩
theorem and1 {x : Int} (h0 : 0 ≤ x) (h1 : x ≤ 18446744073709551615) : bits .and .u64 x 1 = x % 2 := by
 show IntKind.u64.wrap ((BitVec.ofInt 64 x &&& BitVec.ofInt 64 1).toNat : Int) = _
 rw [BitVec.toNat_and]
 have e1 : (BitVec.ofInt 64 x).toNat = x.toNat := by
  simp [BitVec.toNat_ofInt]
  omega
 have e2 : (BitVec.ofInt 64 1).toNat = 1 := rfl
 rw [e1, e2, Nat.and_one_is_mod, wu _ (by omega)]
 omega
def Zep (v : Int) (p : Nat) : List Bool := (List.range p).map fun i => decide ((v / 2 ^ (p - 1 - i)) % 2 = 1)
def ZeF (v : Int) (p : Nat) : List Bool := List.replicate (v / 2 ^ p).toNat true ++ (false :: Zep v p)
theorem ZeG (v : Int) (p : Nat) : (Zep v p).length = p := by simp [Zep]
theorem Zjc (v : Int) (p : Nat) : (ZeF v p).length = (v / 2 ^ p).toNat + 1 + p := by simp [ZeF, ZeG]; omega
theorem fd {v : Int} (h : 0 ≤ v) (k : Nat) : v.fdiv (2 ^ k) = v / 2 ^ k := Int.fdiv_eq_ediv_of_nonneg _ (by have : (0 : Int) < 2 ^ k := Int.pow_pos (by omega); omega)
theorem Zc6 {v : Int} (h0 : 0 ≤ v) (k : Nat) : 0 ≤ v / 2 ^ k ∧ v / 2 ^ k ≤ v := by
 have : (0 : Int) < 2 ^ k := Int.pow_pos (by omega)
 exact ⟨Int.ediv_nonneg h0 (by omega), Int.ediv_le_self _ h0⟩
theorem Zhz {v : Int} {p i : Nat} (h : i < p) : (Zep v p).take (i + 1) = (Zep v p).take i ++ [decide ((v / 2 ^ (p - 1 - i)) % 2 = 1)] := by
 rw [List.take_add_one]
 congr 1
 simp [Zep, h]
theorem ZnN {d0 : List Int} {n0 : Nat} {B : List Bool} {d : List Int} {n : Nat} {v : Int} {p : Nat} (h : Wr d0 n0 B (d, (n : Int))) (hn : n + p ≤ 1700000) (hp : p ≤ 64) (h0 : 0 ≤ v) (h1 : v ≤ 18446744073709551615) : ∃ x, Xo (d, (n : Int)) v (p : Int) = some x ∧ Wr d0 n0 (B ++ Zep v p) x := by
 rw [Xo]
 refine YE (step := X4 (p : Int) v) (fun m s => ∃ (i : Nat) (d' : List Int), s = ((i : Int), ((n + i : Nat) : Int), d') ∧ i ≤ p ∧ Wr d0 n0 (B ++ (Zep v p).take i) (d', ((n + i : Nat) : Int)) ∧ m = p - i) _ ?_ _ _ ⟨0, d, rfl, by omega, by simpa using h, rfl⟩
 rintro m s ⟨i, d', rfl, hi, hw, rfl⟩
 by_cases hip : i < p
 ·refine .inl ⟨p - (i + 1), (((i + 1 : Nat) : Int), ((n + (i + 1) : Nat) : Int), nd d' (n + i) (decide ((v / 2 ^ (p - 1 - i)) % 2 = 1))), by omega, ?_, i + 1, _, rfl, by omega, ?_, rfl⟩
  ·have e1 : IntKind.i64.wrap ((IntKind.i64.wrap ((p : Int) - 1)) - (i : Int)) = ((p - 1 - i : Nat) : Int) := by rw [wi ((p : Int) - 1) (by omega), wi _ (by omega)]; omega
   simp only [X4, if_pos (show (i : Int) < (p : Int) by omega), e1]
   rw [Zs (by omega), show min (((p - 1 - i : Nat) : Int)).toNat 64 = p - 1 - i by omega, fd h0, and1 (Zc6 h0 _).1 (by have := (Zc6 h0 (p - 1 - i)).2; omega), ZiC _ hw.vb.1 (by omega), Zj, wS (by omega)]
   rfl
  ·rw [Zhz hip, ← List.append_assoc]
   exact hw.snoc _
 ·refine .inr ⟨(d', ((n + i : Nat) : Int)), ?_, ?_⟩
  ·simp only [X4, if_neg (show ¬ (i : Int) < (p : Int) by omega)]
  ·rwa [List.take_of_length_le (by rw [ZeG]; omega)] at hw
theorem Znl {d0 : List Int} {n0 : Nat} {B : List Bool} {d : List Int} {n : Nat} {v : Int} {p : Nat} (h : Wr d0 n0 B (d, (n : Int))) (hn : n + p ≤ 1700000) (hp : p ≤ 64) (h0 : 0 ≤ v) (h1 : v ≤ 18446744073709551615) : ∃ x, Zr (XX v) (IntKind.i64.wrap ((p : Int) - 1), (n : Int), d) = some (x, 0) ∧ Wr d0 n0 (B ++ Zep v p) x := by
 obtain ⟨r, g1, x, rfl, g2⟩ := YE (step := XX v) (fun m s => ∃ (i : Nat) (d' : List Int), s = ((p : Int) - 1 - (i : Int), ((n + i : Nat) : Int), d') ∧ i ≤ p ∧ Wr d0 n0 (B ++ (Zep v p).take i) (d', ((n + i : Nat) : Int)) ∧ m = p - i) (fun r => ∃ x, r = (x, (0 : Int)) ∧ Wr d0 n0 (B ++ Zep v p) x) (by
  rintro m s ⟨i, d', rfl, hi, hw, rfl⟩
  by_cases hip : i < p
  ·refine .inl ⟨p - (i + 1), ((p : Int) - 1 - ((i + 1 : Nat) : Int), ((n + (i + 1) : Nat) : Int), nd d' (n + i) (decide ((v / 2 ^ (p - 1 - i)) % 2 = 1))), by omega, ?_, i + 1, _, rfl, by omega, ?_, rfl⟩
   ·simp only [XX, if_pos (show (0 : Int) ≤ (p : Int) - 1 - (i : Int) by omega)]
    rw [Zs (by omega), show min ((p : Int) - 1 - (i : Int)).toNat 64 = p - 1 - i by omega, fd h0, and1 (Zc6 h0 _).1 (by have := (Zc6 h0 (p - 1 - i)).2; omega), Zhc _ hw.vb.1 (by omega), Zj, wi _ (by omega)]
    simp only [show (p : Int) - 1 - (i : Int) - 1 = (p : Int) - 1 - ((i + 1 : Nat) : Int) by omega]
    rfl
   ·rw [Zhz hip, ← List.append_assoc]
    exact hw.snoc _
  ·refine .inr ⟨((d', ((n + i : Nat) : Int)), 0), ?_, _, rfl, ?_⟩
   ·simp only [XX, if_neg (show ¬ (0 : Int) ≤ (p : Int) - 1 - (i : Int) by omega), ZbV]
    rfl
   ·rwa [List.take_of_length_le (by rw [ZeG]; omega)] at hw) _ (IntKind.i64.wrap ((p : Int) - 1), (n : Int), d) ⟨0, d, by rw [wi _ (by omega)]; simp, by omega, by simpa using h, rfl⟩
 exact ⟨x, g1, g2⟩
def ARS (d : List Int) (n : Nat) (v : Int) (p : Nat) (r : (List Int × Int) × Int) : Prop :=
 if 65536 < v / 2 ^ p ∨ 1600000 < n + (v / 2 ^ p).toNat + 1 + p then r = (([], 0), 4) else ∃ x, r = (x, 0) ∧ Wr d n (ZeF v p) x
theorem ZiF {α : Type} (i : Nat) (a : α) : List.replicate (i + 1) a = List.replicate i a ++ [a] := by rw [List.replicate_succ']
theorem Zmj (d : List Int) (n : Int) (h : d.length ≤ 140737488355328) : Zbf (d, n) = some (d, n) := by
 simp only [Zbf]
 rw [Zs (by omega)]
 simp
theorem Zo4 {d : List Int} {n : Nat} {v : Int} {p : Nat} (h : VB d n) (hn : n ≤ 1600000) (hp : p ≤ 32) (h0 : 0 ≤ v) (h1 : v ≤ 18446744073709551615) : ∃ r, Xw (d, (n : Int)) v (p : Int) = some r ∧ ARS d n v p r := by
 have hlen := h.len
 have hq := Zc6 h0 p
 have ep : min ((p : Int)).toNat 64 = p := by omega
 rw [Xw, Zgv h hn, Zj, if_neg (by simp), if_neg (by omega), Zs (by omega)]
 simp only [ep, fd h0]
 unfold ARS
 generalize hqe : v / 2 ^ p = q at hq
 have hcond : (65536 < q ∨ 1600000 < IntKind.i64.wrap ((IntKind.i64.wrap ((IntKind.i64.wrap ((n : Int) + (IntKind.i64.wrap q))) + 1)) + (p : Int))) ↔ (65536 < q ∨ 1600000 < n + q.toNat + 1 + p) := by
  by_cases hq6 : 65536 < q
  ·simp [hq6]
  ·rw [wi q (by omega), wi ((n : Int) + q) (by omega), wi ((n : Int) + q + 1) (by omega), wi _ (by omega)]
   omega
 by_cases hc : 65536 < q ∨ 1600000 < n + q.toNat + 1 + p
 ·rw [if_pos (hcond.2 hc)]
  simp only [if_pos hc]
  exact ⟨_, rfl, rfl⟩
 ·rw [if_neg (fun h => hc (hcond.1 h)), Zmj d _ (by omega), Zj]
  simp only [if_neg hc]
  refine YE (step := ZaB v (p : Int)) (fun m s => ∃ (i : Nat) (d' : List Int), s = ((i : Int), ((n + i : Nat) : Int), d') ∧ i ≤ q.toNat ∧ Wr d n (List.replicate i true) (d', ((n + i : Nat) : Int)) ∧ m = q.toNat - i) _ ?_ _ _ ⟨0, d, rfl, by omega, by simpa using Wr.nil h, rfl⟩
  rintro m s ⟨i, d', rfl, hi, hw, rfl⟩
  by_cases hiq : i < q.toNat
  ·refine .inl ⟨q.toNat - (i + 1), (((i + 1 : Nat) : Int), ((n + (i + 1) : Nat) : Int), nd d' (n + i) true), by omega, ?_, i + 1, _, rfl, by omega, ?_, rfl⟩
   ·simp only [ZaB, ep, fd h0, hqe, if_pos (show (i : Int) < q by omega)]
    rw [ZiC _ hw.vb.1 (by omega), Zj, wu _ (by omega)]
    rfl
   ·rw [ZiF]
    exact hw.snoc _
  ·have e : i = q.toNat := by omega
   subst e
   have hw2 := hw.snoc false
   obtain ⟨x, g1, g2⟩ := ZnN (p := p) hw2 (by omega) (by omega) h0 h1
   refine .inr ⟨(x, 0), ?_, x, rfl, ?_⟩
   ·simp only [ZaB, ep, fd h0, hqe, if_neg (show ¬ ((q.toNat : Nat) : Int) < q by omega), Zca]
    rw [ZiC _ hw.vb.1 (by omega), Zj, g1, Zj]
    rfl
   ·rw [List.append_assoc] at g2
    rw [ZeF, hqe]
    exact g2
theorem Zmk (d : List Int) (h : d.length ≤ 140737488355328) : Zbh [d] = some d := by
 rw [Zbh, ZZ (s' := (1, d)), Yn (r := d)]
 ·simp [Zcu, Zdx]
 ·simp only [Zcu, List.length_singleton, if_pos (show (0 : Int) < ((1 : Nat) : Int) by omega)]
  rw [show (0 : Int) = ((0 : Nat) : Int) from rfl, YM (by simp)]
  simp only [List.getElem_cons_zero]
  rw [Zk4 (by simpa using h), Zj]
  rfl
theorem ZnO {d : List Int} {n : Nat} {v : Int} {p : Nat} (h : VB d n) (hn : n ≤ 1600000) (hp : p ≤ 32) (h0 : 0 ≤ v) (h1 : v ≤ 18446744073709551615) : ∃ r, Xq (d, (n : Int)) v (p : Int) = some r ∧ ARS d n v p r := by
 have hlen := h.len
 have hq := Zc6 h0 p
 have ep : min ((p : Int)).toNat 64 = p := by omega
 rw [Xq, ZfM h hn, Zj, if_neg (by simp), if_neg (by omega), Zs (by omega)]
 simp only [ep, fd h0]
 unfold ARS
 generalize hqe : v / 2 ^ p = q at hq
 by_cases hq6 : 65536 < q
 ·rw [if_pos hq6, Zj, if_pos (.inl hq6)]
  simp only [if_pos (show 65536 < q ∨ 1600000 < n + q.toNat + 1 + p from .inl hq6)]
  exact ⟨_, rfl, rfl⟩
 ·rw [if_neg hq6, Zs (by omega), Zj, wi q (by omega), wi ((n : Int) + q) (by omega), wi ((n : Int) + q + 1) (by omega), wi _ (by omega)]
  by_cases hc : 65536 < q ∨ 1600000 < n + q.toNat + 1 + p
  ·rw [if_pos (.inr (by simp; omega))]
   simp only [if_pos hc]
   exact ⟨_, rfl, rfl⟩
  ·rw [if_neg (by simp; omega), Zmk d (by omega), Zj, Zs (by omega)]
   simp only [if_neg hc]
   refine YE (step := Zap v (p : Int)) (fun m s => ∃ (i : Nat) (d' : List Int), s = (q - (i : Int), ((n + i : Nat) : Int), d') ∧ i ≤ q.toNat ∧ Wr d n (List.replicate i true) (d', ((n + i : Nat) : Int)) ∧ m = q.toNat - i) _ ?_ _ _ ⟨0, d, by simp, by omega, by simpa using Wr.nil h, rfl⟩
   rintro m s ⟨i, d', rfl, hi, hw, rfl⟩
   by_cases hiq : i < q.toNat
   ·refine .inl ⟨q.toNat - (i + 1), (q - ((i + 1 : Nat) : Int), ((n + (i + 1) : Nat) : Int), nd d' (n + i) true), by omega, ?_, i + 1, _, rfl, by omega, ?_, rfl⟩
    ·simp only [Zap, if_pos (show (0 : Int) < q - (i : Int) by omega)]
     rw [Zhc _ hw.vb.1 (by omega), Zj, wu _ (by omega), show q - (i : Int) - 1 = q - ((i + 1 : Nat) : Int) by omega]
     rfl
    ·rw [ZiF]
     exact hw.snoc _
   ·have e : i = q.toNat := by omega
    subst e
    have hw2 := hw.snoc false
    obtain ⟨x, g1, g2⟩ := Znl (p := p) hw2 (by omega) (by omega) h0 h1
    refine .inr ⟨(x, 0), ?_, x, rfl, ?_⟩
    ·simp only [Zap, if_neg (show ¬ (0 : Int) < q - ((q.toNat : Nat) : Int) by omega), ZbW]
     rw [Zhc _ hw.vb.1 (by omega), Zj, g1]
     rfl
    ·rw [List.append_assoc] at g2
     rw [ZeF, hqe]
     exact g2
end Go.Lc
end
section
namespace Go.Lc
open Go.RowKit
open Go.Av
set_option linter.unusedVariables false
set_option linter.unusedSimpArgs false
set_option maxRecDepth 100000
def U64 (l : List Int) : Prop := ∀ x ∈ l, 0 ≤ x ∧ x ≤ 18446744073709551615
def Asc (l : List Int) : Prop := ∀ i (h : i + 1 < l.length), l[i] ≤ l[i + 1]
theorem Zjd (l : List Int) (hs : l.length < 4611686018427387904) : ∃ b, Yt l = some b ∧ (b = true ↔ Asc l) := by
 rw [Yt]
 rcases Nat.eq_zero_or_pos l.length with h0 | h0
 ·refine ⟨true, Yn ?_, by simp; intro i h; omega⟩
  rw [h0]
  simp only [Yx]
  rw [if_neg (by decide), Lslices_IsSorted_of__uint64_uint64_k1]
  rfl
 ·rw [wi _ (by omega), show (l.length : Int) - 1 = ((l.length - 1 : Nat) : Int) by omega]
  refine YE (step := Yx l) (fun m s => ∃ i : Nat, s = (i : Int) ∧ i < l.length ∧ (∀ j (h : j + 1 < l.length), i ≤ j → l[j] ≤ l[j + 1]) ∧ m = i) _ ?_ _ _ ⟨l.length - 1, rfl, by omega, fun j h hj => by omega, rfl⟩
  rintro m s ⟨i, rfl, hi, hj, hm⟩
  by_cases hi0 : 0 < i
  ·obtain ⟨i, rfl⟩ : ∃ k, i = k + 1 := ⟨i - 1, by omega⟩
   have h1 : i < l.length := by omega
   by_cases hl : l[i + 1] < l[i]
   ·refine .inr ⟨false, ?_, by simp; exact fun h => by have := h i hi; omega⟩
    simp only [Yx, if_pos (show (0 : Int) < ((i + 1 : Nat) : Int) by omega), YM hi, wP (show i < 9223372036854775807 by omega), YM h1, Xv, sB]
    rw [if_pos (by simp [Go.Sort.ltInt, hl])]
   ·refine .inl ⟨i, (i : Int), by omega, ?_, i, rfl, h1, ?_, rfl⟩
    ·simp only [Yx, if_pos (show (0 : Int) < ((i + 1 : Nat) : Int) by omega), YM hi, wP (show i < 9223372036854775807 by omega), YM h1, Xv, sB]
     rw [if_neg (by simp [Go.Sort.ltInt]; omega)]
    ·intro j h hij
     by_cases e : j = i
     ·subst e; omega
     ·exact hj j h (by omega)
  ·refine .inr ⟨true, ?_, by simp; exact fun j h => hj j h (by omega)⟩
   simp only [Yx, if_neg (show ¬ (0 : Int) < (i : Int) by omega), Lslices_IsSorted_of__uint64_uint64_k1]
   rfl
def Zgw (p : Nat) : Nat → Int → List Int → Option (List Bool)
 | _, _, [] => some []
 | n, a, v :: l => if 65536 < (v - a) / 2 ^ p ∨ 1600000 < n + ((v - a) / 2 ^ p).toNat + 1 + p then none else (Zgw p (n + ((v - a) / 2 ^ p).toNat + 1 + p) v l).map (ZeF (v - a) p ++ ·)
def Zkc (a : Int) : List Int → Prop
 | [] => True
 | v :: l => a ≤ v ∧ Zkc v l
def ESR (len : Nat) (d0 : List Int) (n : Nat) (x : Option (List Bool)) (r : Tapi_Filter × Int) : Prop := match x with
 | none => r = ((0, []), 4)
 | some B => ∃ y, r = (((len : Int), y.1), 0) ∧ Wr d0 n B y
theorem ZiG {AR : Tapi_Bits → Int → Int → Option (Tapi_Bits × Int)} (hAR : ∀ (d : List Int) (n : Nat) (v : Int) (p : Nat), VB d n → n ≤ 1600000 → p ≤ 32 → 0 ≤ v → v ≤ 18446744073709551615 → ∃ r, AR (d, (n : Int)) v (p : Int) = some r ∧ ARS d n v p r)
  {step : Int × Int × List Int × Int → Option ((Int × Int × List Int × Int) ⊕ (Tapi_Filter × Int))} {l : List Int} {p : Nat} (hp : p ≤ 32) (hl : l.length ≤ 4096) (hu : U64 l)
  (hst : ∀ a i d n, step (a, i, d, n) = (if i < (l.length : Int) then (idx l i).bind fun x => (AR (d, n) (IntKind.u64.wrap (x - a)) (p : Int)).bind fun y => (if ¬ (y.2 = 0) then some (.inr (((0, ([] : (List Int))), y.2))) else some (.inl (x, IntKind.i64.wrap (i + 1), y.1.1, y.1.2))) else some (.inr (((l.length : Int), d), 0)))) :
  ∀ (rest : List Int) (i : Nat) (a : Int) (d : List Int) (n : Nat), l.drop i = rest → VB d n → n ≤ 1600000 → 0 ≤ a → Zkc a rest → ∃ r, Zr step (a, (i : Int), d, (n : Int)) = some r ∧ ESR l.length d n (Zgw p n a rest) r := by
 intro rest
 induction rest with
 | nil =>
  intro i a d n hr hv hn ha hc
  have hi : l.length ≤ i := List.drop_eq_nil_iff.1 hr
  refine ⟨(((l.length : Int), d), 0), Yn ?_, (d, (n : Int)), rfl, Wr.nil hv⟩
  rw [hst, if_neg (by omega)]
 | cons v rest ih =>
  intro i a d n hr hv hn ha hc
  have hi : i < l.length := by
   rcases Nat.lt_or_ge i l.length with h | h
   ·exact h
   ·rw [List.drop_eq_nil_of_le h] at hr; cases hr
  have hx : l[i] = v ∧ l.drop (i + 1) = rest := by
   rw [List.drop_eq_getElem_cons hi] at hr
   injection hr with h1 h2
   exact ⟨h1, h2⟩
  obtain ⟨hx, hr2⟩ := hx
  have hvu := hu v (hx ▸ List.getElem_mem hi)
  obtain ⟨hav, hc⟩ := hc
  obtain ⟨r, h1, h2⟩ := hAR d n (v - a) p hv hn hp (by omega) (by omega)
  have hs : step (a, (i : Int), d, (n : Int)) = (if ¬ (r.2 = 0) then some (.inr (((0, ([] : (List Int))), r.2))) else some (.inl (v, ((i + 1 : Nat) : Int), r.1.1, r.1.2))) := by
   rw [hst, if_pos (by omega), YM hi, hx, wu _ (by omega), h1, Zj, wS (by omega)]
  unfold ARS at h2
  rw [Zgw]
  split at h2
  ·rename_i hc2
   subst h2
   rw [if_pos hc2]
   exact ⟨_, Yn (by rw [hs, if_pos (by decide)]), rfl⟩
  ·rename_i hc2
   obtain ⟨y, rfl, hw⟩ := h2
   rw [if_neg hc2]
   rw [if_neg (by simp)] at hs
   have e : y = (y.1, ((n + (ZeF (v - a) p).length : Nat) : Int)) := by rw [← hw.1]
   have hv2 := hw.2.1
   have hlr := Zjc (v - a) p
   obtain ⟨r, h3, h4⟩ := ih (i + 1) v y.1 (n + (ZeF (v - a) p).length) hr2 hv2 (by omega) (by omega) hc
   simp only at hs
   rw [hw.1] at hs
   refine ⟨r, (ZZ hs).trans h3, ?_⟩
   rw [hlr, show n + (((v - a) / 2 ^ p).toNat + 1 + p) = n + ((v - a) / 2 ^ p).toNat + 1 + p by omega] at h4
   cases hB : Zgw p (n + ((v - a) / 2 ^ p).toNat + 1 + p) v rest with
   | none => rw [hB] at h4; exact h4
   | some B =>
    rw [hB] at h4
    obtain ⟨z, rfl, g1, g2, g3⟩ := h4
    refine ⟨z, rfl, ?_, ?_, ?_⟩
    ·rw [g1]; simp; omega
    ·rw [show n + (ZeF (v - a) p ++ B).length = n + ((v - a) / 2 ^ p).toNat + 1 + p + B.length by simp; omega]; exact g2
    ·rw [show n + (ZeF (v - a) p ++ B).length = n + ((v - a) / 2 ^ p).toNat + 1 + p + B.length by simp; omega, g3, ← List.append_assoc]
     congr 1
     have := hw.2.2
     rwa [hlr, show n + (((v - a) / 2 ^ p).toNat + 1 + p) = n + ((v - a) / 2 ^ p).toNat + 1 + p by omega] at this
def ER (l : List Int) (p : Int) (r : Tapi_Filter × Int) : Prop :=
 (4096 < l.length ∧ r = ((0, []), 4)) ∨ (l.length ≤ 4096 ∧ (p < 0 ∨ 32 < p) ∧ r = ((0, []), 5)) ∨ (l.length ≤ 4096 ∧ 0 ≤ p ∧ p ≤ 32 ∧ ¬ Asc l ∧ r = ((0, []), 6)) ∨ (l.length ≤ 4096 ∧ 0 ≤ p ∧ p ≤ 32 ∧ Asc l ∧ ESR l.length [] 0 (Zgw p.toNat 0 0 l) r)
theorem Zkd {len : Nat} {d : List Int} {n : Nat} {x : Option (List Bool)} {r r' : Tapi_Filter × Int} (h : ESR len d n x r) (h' : ESR len d n x r') : r = r' := by
 unfold ESR at h h'
 cases x with
 | none => rw [h, h']
 | some B =>
  obtain ⟨y, rfl, h1, h2, h3⟩ := h
  obtain ⟨z, rfl, g1, g2, g3⟩ := h'
  rw [Zk1 h2 g2 (h3.trans g3.symm)]
theorem ZhA {l : List Int} {p : Int} {r r' : Tapi_Filter × Int} (h : ER l p r) (h' : ER l p r') : r = r' := by
 unfold ER at h h'
 rcases h with ⟨a1, rfl⟩ | ⟨a1, a2, rfl⟩ | ⟨a1, a2, a3, a4, rfl⟩ | ⟨a1, a2, a3, a4, a5⟩
 ·rcases h' with ⟨b1, rfl⟩ | ⟨b1, b2, rfl⟩ | ⟨b1, b2, b3, b4, rfl⟩ | ⟨b1, b2, b3, b4, b5⟩ <;> first | rfl | (exfalso; omega)
 ·rcases h' with ⟨b1, rfl⟩ | ⟨b1, b2, rfl⟩ | ⟨b1, b2, b3, b4, rfl⟩ | ⟨b1, b2, b3, b4, b5⟩ <;> first | rfl | (exfalso; omega)
 ·rcases h' with ⟨b1, rfl⟩ | ⟨b1, b2, rfl⟩ | ⟨b1, b2, b3, b4, rfl⟩ | ⟨b1, b2, b3, b4, b5⟩ <;> first | rfl | (exfalso; omega) | exact absurd b4 a4
 ·rcases h' with ⟨b1, rfl⟩ | ⟨b1, b2, rfl⟩ | ⟨b1, b2, b3, b4, rfl⟩ | ⟨b1, b2, b3, b4, b5⟩ <;> first | (exfalso; omega) | exact absurd a4 b4 | exact Zkd a5 b5
theorem VB_nil : VB [] 0 := ⟨fun x hx => absurd hx (by simp), rfl, fun i _ => by simp [bt, bb]⟩
theorem asc_chain : ∀ (l : List Int) (a : Int), (∀ h : 0 < l.length, a ≤ l[0]) → Asc l → Zkc a l
 | [], a, _, _ => trivial
 | v :: l, a, h, hl => ⟨h (by simp), asc_chain l v (fun h0 => hl 0 (by simpa using h0)) fun i hi => hl (i + 1) (by simpa using hi)⟩
theorem ZhB (l : List Int) (p : Int) (hu : U64 l) (hs : l.length < 4611686018427387904) : ∃ r, XB l p = some r ∧ ER l p r := by
 rw [XB]
 by_cases h1 : 4096 < l.length
 ·rw [if_pos (by omega)]
  exact ⟨_, rfl, .inl ⟨h1, rfl⟩⟩
 ·rw [if_neg (by omega)]
  by_cases h2 : p < 0 ∨ 32 < p
  ·rw [if_pos h2]
   exact ⟨_, rfl, .inr (.inl ⟨by omega, h2, rfl⟩)⟩
  ·rw [if_neg h2]
   obtain ⟨b, hb, hb2⟩ := Zjd l hs
   rw [hb, Zj]
   by_cases h3 : b = true
   ·rw [if_neg (by simp [h3])]
    obtain ⟨q, rfl⟩ : ∃ q : Nat, p = (q : Int) := ⟨p.toNat, by omega⟩
    obtain ⟨r, g1, g2⟩ := ZiG (AR := Xw) (fun d n v p h1 h2 h3 h4 h5 => Zo4 h1 h2 h3 h4 h5) (step := ZbD l (q : Int)) (l := l) (p := q) (by omega) (by omega) hu (fun a i d n => by rw [ZbD, Zcz]; rfl) l 0 0 [] 0 rfl VB_nil (by omega) (by omega) (asc_chain l 0 (fun h => (hu _ (List.getElem_mem h)).1) (hb2.1 h3))
    exact ⟨r, g1, .inr (.inr (.inr ⟨by omega, by omega, by omega, hb2.1 h3, by simpa using g2⟩))⟩
   ·rw [if_pos h3]
    exact ⟨_, rfl, .inr (.inr (.inl ⟨by omega, by omega, by omega, fun h => h3 (hb2.2 h), rfl⟩))⟩
theorem Zke (l : List Int) (p : Int) (hu : U64 l) (hs : l.length < 4611686018427387904) : ∃ r, X7 l p = some r ∧ ER l p r := by
 rw [X7]
 by_cases h1 : 4096 < l.length
 ·rw [if_pos (by omega)]
  exact ⟨_, rfl, .inl ⟨h1, rfl⟩⟩
 ·rw [if_neg (by omega)]
  by_cases h2 : p < 0 ∨ 32 < p
  ·rw [if_pos h2]
   exact ⟨_, rfl, .inr (.inl ⟨by omega, h2, rfl⟩)⟩
  ·rw [if_neg h2]
   obtain ⟨q, rfl⟩ : ∃ q : Nat, p = (q : Int) := ⟨p.toNat, by omega⟩
   refine YE (step := ZaH l (q : Int)) (fun m s => ∃ i : Nat, s = ((i + 1 : Nat) : Int) ∧ i ≤ l.length ∧ (∀ j (h : j + 1 < l.length), j < i → l[j] ≤ l[j + 1]) ∧ m = l.length - i) _ ?_ _ _ ⟨0, rfl, by omega, fun j h hj => by omega, rfl⟩
   rintro m s ⟨i, rfl, hi, hj, rfl⟩
   by_cases hil : i + 1 < l.length
   ·have h0 : i < l.length := by omega
    by_cases hx : l[i + 1] < l[i]
    ·refine .inr ⟨((0, []), 6), ?_, .inr (.inr (.inl ⟨by omega, by omega, by omega, fun h => by have := h i hil; omega, rfl⟩))⟩
     simp only [ZaH, if_pos (show ((i + 1 : Nat) : Int) < (l.length : Int) by omega), wP (show i < 9223372036854775807 by omega), YM h0, YM hil, if_pos hx]
    ·refine .inl ⟨l.length - (i + 1), ((i + 1 + 1 : Nat) : Int), by omega, ?_, i + 1, rfl, by omega, ?_, rfl⟩
     ·simp only [ZaH, if_pos (show ((i + 1 : Nat) : Int) < (l.length : Int) by omega), wP (show i < 9223372036854775807 by omega), YM h0, YM hil, if_neg hx, wS (show i + 1 < 9223372036854775807 by omega)]
     ·intro j h hji
      by_cases e : j = i
      ·subst e; omega
      ·exact hj j h (by omega)
   ·have hasc : Asc l := fun j h => hj j h (by omega)
    obtain ⟨r, g1, g2⟩ := ZiG (AR := Xq) (fun d n v p h1 h2 h3 h4 h5 => ZnO h1 h2 h3 h4 h5) (step := ZbX l (q : Int)) (l := l) (p := q) (by omega) (by omega) hu (fun a i d n => by rw [ZbX, ZcW]; rfl) l 0 0 [] 0 rfl VB_nil (by omega) (by omega) (asc_chain l 0 (fun h => (hu _ (List.getElem_mem h)).1) hasc)
    refine .inr ⟨r, ?_, .inr (.inr (.inr ⟨by omega, by omega, by omega, hasc, by simpa using g2⟩))⟩
    simp only [ZaH, if_neg (show ¬ ((i + 1 : Nat) : Int) < (l.length : Int) by omega), ZcX]
    rw [show ((0 : Nat) : Int) = 0 from rfl] at g1
    rw [g1]
    rfl
theorem ZiH (l : List Int) (p : Int) (hu : U64 l) (hs : l.length < 4611686018427387904) : ∃ r, XB l p = some r ∧ X7 l p = some r ∧ ER l p r := by
 obtain ⟨r, h1, h2⟩ := ZhB l p hu hs
 obtain ⟨r', h3, h4⟩ := Zke l p hu hs
 exact ⟨r, h1, by rw [h3, ZhA h4 h2], h2⟩
end Go.Lc
end
section
namespace Go.Lc
open Go.RowKit
open Go.Av
set_option linter.unusedVariables false
set_option linter.unusedSimpArgs false
set_option maxRecDepth 100000
theorem Zgx (x : Int) : 0 ≤ IntKind.u64.wrap x ∧ IntKind.u64.wrap x ≤ 18446744073709551615 := by
 simp [IntKind.wrap, IntKind.signed, IntKind.bits]
 omega
theorem Zml (op : BinOp) (x y : Int) : 0 ≤ bits op .u64 x y ∧ bits op .u64 x y ≤ 18446744073709551615 := Zgx _
def rt (a0 a1 : Int) : Int := bits .or .u64 (IntKind.u64.wrap (a0 * (2 ^ (min (bits .and .u64 (IntKind.u64.wrap (a1)) 63).toNat 64)))) ((a0).fdiv (2 ^ (min (IntKind.u64.wrap (64 - (bits .and .u64 (IntKind.u64.wrap (a1)) 63))).toNat 64)))
theorem ZmB (a b : Int) : ZH a b = some (rt a b) := by
 have h1 := Zml .and (IntKind.u64.wrap b) 63
 have h2 := Zgx (64 - (bits .and .u64 (IntKind.u64.wrap b) 63))
 rw [ZH, Zs (by omega), Zs (by omega)]
 rfl
def q4 (a b c d : Int) : Arr 4 := ⟨[a, b, c, d], rfl⟩
theorem Zk5 (v : Arr 4) : ∃ a b c d, v = q4 a b c d := by
 obtain ⟨l, hl⟩ := v
 match l, hl with
 | [a, b, c, d], _ => exact ⟨a, b, c, d, rfl⟩
section
variable {a b c d x : Int}
theorem q4p0 : (q4 a b c d).put 0 x = q4 x b c d := rfl
theorem q4p1 : (q4 a b c d).put 1 x = q4 a x c d := rfl
theorem q4p2 : (q4 a b c d).put 2 x = q4 a b x d := rfl
theorem q4p3 : (q4 a b c d).put 3 x = q4 a b c x := rfl
theorem q4a0 : (q4 a b c d).at 0 = a := rfl
theorem q4a1 : (q4 a b c d).at 1 = b := rfl
theorem q4a2 : (q4 a b c d).at 2 = c := rfl
theorem q4a3 : (q4 a b c d).at 3 = d := rfl
end
def rnd (v : Arr 4) : Arr 4 :=
 let a1 := IntKind.u64.wrap (v.at 0 + v.at 1)
 let b1 := bits .xor .u64 (rt (v.at 1) 13) a1
 let c1 := IntKind.u64.wrap (v.at 2 + v.at 3)
 let d1 := bits .xor .u64 (rt (v.at 3) 16) c1
 let a3 := IntKind.u64.wrap (rt a1 32 + d1)
 let c2 := IntKind.u64.wrap (c1 + b1)
 q4 a3 (bits .xor .u64 (rt b1 17) c2) (rt c2 32) (bits .xor .u64 (rt d1 21) a3)
theorem Zc7 (v : Arr 4) : Xu v = some (rnd v) := by
 obtain ⟨a, b, c, d, rfl⟩ := Zk5 v
 simp only [Xu, ZmB, Zj, q4p0, q4p1, q4p2, q4p3, q4a0, q4a1, q4a2, q4a3, rnd]
def rndN : Nat → Arr 4 → Arr 4
 | 0, v => v
 | n + 1, v => rndN n (rnd v)
theorem Zje (n : Nat) (hn : n < 100) : ∀ (k i : Nat) (v : Arr 4), n - i = k → i ≤ n → Zr (ZbJ (n : Int)) ((i : Int), v) = some (rndN k v) := by
 intro k
 induction k with
 | zero =>
  intro i v h hi
  refine Yn ?_
  simp only [ZbJ, if_neg (show ¬ (i : Int) < (n : Int) by omega), Zdw]
  rfl
 | succ k ih =>
  intro i v h hi
  rw [rndN, ← ih (i + 1) (rnd v) (by omega) (by omega)]
  refine ZZ ?_
  obtain ⟨a, b, c, d, rfl⟩ := Zk5 v
  simp only [ZbJ, if_pos (show (i : Int) < (n : Int) by omega), ZmB, Zj, q4p0, q4p1, q4p2, q4p3, q4a0, q4a1, q4a2, q4a3, rnd, wS (show i < 9223372036854775807 by omega)]
theorem ZhC (n : Nat) (hn : n < 100) (v : Arr 4) : Zbg v (n : Int) = some (rndN n v) := Zje n hn n 0 v (by omega) (by omega)
def ZiI (v : Arr 4) (m : Int) : Arr 4 :=
 let w := rndN 2 (v.put 3 (bits .xor .u64 (v.at 3) m))
 w.put 0 (bits .xor .u64 (w.at 0) m)
theorem ZhD (v : Arr 4) (m : Int) : ZaO v m = some (ZiI v m) := by
 rw [ZaO, show (2 : Int) = ((2 : Nat) : Int) from rfl, ZhC 2 (by omega), Zj]
 rfl
theorem ZgX (v : Arr 4) (m : Int) : X8 v m = some (ZiI v m) := by
 rw [X8, Zc7, Zj, Zc7, Zj]
 rfl
theorem ZhE (l : List Int) : Zbj l = Zax l := rfl
theorem Zmm (l : List Int) (h : l.length ≤ 100000) : ∃ w, Zax l = some w := by
 rw [Zax]
 obtain ⟨r, h1, _⟩ := YE (step := Zcj l) (fun m s => ∃ (w : Int) (i : Nat), s = (w, (i : Int)) ∧ i ≤ l.length ∧ m = l.length - i) (fun _ => True) (by
  rintro m s ⟨w, i, rfl, hi, rfl⟩
  by_cases hil : i < l.length
  ·refine .inl ⟨l.length - (i + 1), (bits .or .u64 w (IntKind.u64.wrap ((IntKind.u64.wrap l[i]) * (2 ^ (min (IntKind.i64.wrap (8 * (i : Int))).toNat 64)))), ((i + 1 : Nat) : Int)), by omega, ?_, _, i + 1, rfl, by omega, rfl⟩
   ·simp only [Zcj, if_pos (show (i : Int) < (l.length : Int) by omega)]
    rw [YM hil, Zs (by rw [wi _ (by omega)]; omega), wS (by omega)]
  ·refine .inr ⟨w, ?_, trivial⟩
   simp only [Zcj, if_neg (show ¬ (i : Int) < (l.length : Int) by omega), Zen]
   rfl) _ (0, 0) ⟨0, 0, rfl, by omega, rfl⟩
 exact ⟨r, h1⟩
noncomputable def wdv (l : List Int) : Int := (Zax l).getD 0
theorem Zf0 (l : List Int) (h : l.length ≤ 100000) : Zax l = some (wdv l) := by
 obtain ⟨w, hw⟩ := Zmm l h
 rw [wdv, hw]
 rfl
noncomputable def sumE (l : List Int) (v : Arr 4) (t : List Int) : Int :=
 let w := ZiI v (bits .or .u64 (wdv t) (IntKind.u64.wrap ((IntKind.u64.wrap (((l.length : Int)).tmod 256)) * 72057594037927936)))
 let z := rndN 4 (w.put 2 (bits .xor .u64 (w.at 2) 255))
 bits .xor .u64 (bits .xor .u64 (bits .xor .u64 (z.at 0) (z.at 1)) (z.at 2)) (z.at 3)
noncomputable def Zhd (l : List Int) : Nat → Arr 4 → List Int → Int
 | 0, v, t => sumE l v t
 | n + 1, v, t => Zhd l n (ZiI v (wdv (t.take 8))) (t.drop 8)
theorem Zmn (l : List Int) (hl : l.length ≤ 100000) : ∀ (n i : Nat) (v : Arr 4), l.length / 8 - i = n → i ≤ l.length / 8 → Zr (ZcH l) ((i : Int), v) = some (Zhd l n v (l.drop (8 * i))) := by
 have e8 : IntKind.i64.wrap (((l.length : Int)).tdiv 8) = ((l.length / 8 : Nat) : Int) := by rw [ZfY, wI _ (by omega)]
 intro n
 induction n with
 | zero =>
  intro i v h hi
  have e : i = l.length / 8 := by omega
  subst e
  have e3 : IntKind.i64.wrap (8 * ((l.length / 8 : Nat) : Int)) = ((8 * (l.length / 8) : Nat) : Int) := by rw [wi _ (by omega)]; omega
  refine YG ?_
  simp only [ZcH, e8, if_neg (show ¬ ((l.length / 8 : Nat) : Int) < ((l.length / 8 : Nat) : Int) by omega), ZeD, e3]
  rw [Zs (by omega), show (((8 * (l.length / 8) : Nat) : Int)).toNat = 8 * (l.length / 8) by omega, Zf0 _ (by simp; omega), Zj, ZhD, Zj, show (4 : Int) = ((4 : Nat) : Int) from rfl, ZhC 4 (by omega), Zj]
  rfl
 | succ n ih =>
  intro i v h hi
  have e3 : IntKind.i64.wrap (8 * (i : Int)) = ((8 * i : Nat) : Int) := by rw [wi _ (by omega)]; omega
  have e4 : IntKind.i64.wrap (((8 * i : Nat) : Int) + 8) = ((8 * i + 8 : Nat) : Int) := by rw [wi _ (by omega)]; omega
  have := ih (i + 1) (ZiI v (wdv ((l.drop (8 * i)).take 8))) (by omega) (by omega)
  rw [Zhd, List.drop_drop, show 8 * i + 8 = 8 * (i + 1) by omega, ← this]
  refine ZZ ?_
  simp only [ZcH, e8, if_pos (show (i : Int) < ((l.length / 8 : Nat) : Int) by omega), e3, e4]
  rw [Zs (by omega), show (((8 * i + 8 : Nat) : Int)).toNat = 8 * i + 8 by omega, show (((8 * i : Nat) : Int)).toNat = 8 * i by omega, List.drop_take, show 8 * i + 8 - 8 * i = 8 by omega, Zf0 _ (by simp; omega), Zj, ZhD, Zj, wS (by omega)]
theorem Zk6 (l : List Int) (hl : l.length ≤ 100000) : ∀ (n : Nat) (t : List Int) (v : Arr 4), t.length / 8 = n → t.length ≤ l.length → Zr (Zb1 l) (t, v) = some (Zhd l n v t) := by
 intro n
 induction n with
 | zero =>
  intro t v h ht
  refine YG ?_
  simp only [Zb1, if_neg (show ¬ (8 : Int) ≤ (t.length : Int) by omega), ZdV]
  rw [ZhE, Zf0 _ (by omega), Zj, ZgX, Zj, Zc7, Zj, Zc7, Zj, Zc7, Zj, Zc7, Zj]
  rfl
 | succ n ih =>
  intro t v h ht
  rw [Zhd, ← ih (t.drop 8) _ (by simp; omega) (by simp; omega)]
  refine ZZ ?_
  simp only [Zb1, if_pos (show (8 : Int) ≤ (t.length : Int) by omega)]
  rw [Zs (by omega), ZhE, Zf0 _ (by simp; omega), Zj, ZgX, Zj, Zs (by omega)]
noncomputable def Zmo (k : Arr 2) (l : List Int) : Int := Zhd l (l.length / 8) (((((zA 4).put 0 (bits .xor .u64 (k.at 0) 8317987319222330741)).put 1 (bits .xor .u64 (k.at 1) 7237128888997146477)).put 2 (bits .xor .u64 (k.at 0) 7816392313619706465)).put 3 (bits .xor .u64 (k.at 1) 8387220255154660723)) l
theorem ZnP (k : Arr 2) (l : List Int) (hl : l.length ≤ 100000) : Zck k l = some (Zmo k l) := by
 have := Zmn l hl (l.length / 8) 0 (((((zA 4).put 0 (bits .xor .u64 (k.at 0) 8317987319222330741)).put 1 (bits .xor .u64 (k.at 1) 7237128888997146477)).put 2 (bits .xor .u64 (k.at 0) 7816392313619706465)).put 3 (bits .xor .u64 (k.at 1) 8387220255154660723)) (by omega) (by omega)
 rw [Zck, show (0 : Int) = ((0 : Nat) : Int) from rfl, this]
 rfl
theorem Znm (k : Arr 2) (l : List Int) (hl : l.length ≤ 100000) : ZbY k l = some (Zmo k l) := Zk6 l hl _ l _ rfl (Nat.le_refl _)
noncomputable def scl (h n : Int) : Int := ((XK h n).map (·.1)).getD 0
theorem Zmp (h n : Int) : ZbU h n = some (scl h n) := rfl
theorem Zk7 (h n : Int) : Zbp h n = some (scl h n) := rfl
theorem Zk8 (h n : Int) : 0 ≤ scl h n ∧ scl h n ≤ 18446744073709551615 := Zgx _
noncomputable def Zb0 (k : Arr 2) (n m : Int) (x : List Int) : Int := scl (Zmo k x) (IntKind.u64.wrap ((IntKind.u64.wrap n) * m))
theorem ZhF (k : Arr 2) (x : List Int) (n m : Int) (hx : x.length ≤ 100000) : Zaq k x n m = some (Zb0 k n m x) := by
 rw [Zaq, Znm k x hx, Zj, Zk7, Zj]
 rfl
theorem Zjv (k : Arr 2) (n m : Int) (l : List (List Int)) : U64 (l.map (Zb0 k n m)) := by
 intro x hx
 obtain ⟨y, _, rfl⟩ := List.mem_map.1 hx
 exact Zk8 _ _
end Go.Lc
end
section
namespace Go.Lc
open Go.RowKit
open Go.Av
set_option linter.unusedVariables false
set_option linter.unusedSimpArgs false
set_option maxRecDepth 100000
theorem Zkf {K V : Type} [DecidableEq K] (k a : K) (v : V) (l : List (K × V)) : Zde k (Zdv a v l) = if k = a then some v else Zde k l := by
 induction l with
 | nil => simp [Zdv, Zde]
 | cons x l ih =>
  obtain ⟨b, w⟩ := x
  by_cases h1 : a = b
  ·subst h1
   by_cases h2 : k = a <;> simp [Zdv, Zde, h2]
  ·by_cases h2 : k = b
   ·subst h2
    simp [Zdv, Zde, h1, Ne.symm h1]
   ·simp [Zdv, Zde, h1, h2, ih]
theorem ZhG {a b : List Int} (ha : Byt a) (hb : Byt b) (h : ZbS a = ZbS b) : a = b := by
 have h1 : a.map (fun n => UInt8.ofNat n.toNat) = b.map (fun n => UInt8.ofNat n.toNat) := by
  have := congrArg (fun s : ByteArray => s.data.toList) h
  simpa [ZbS] using this
 have hl : a.length = b.length := by simpa using congrArg List.length h1
 apply List.ext_getElem hl
 intro i h2 h3
 have h4 := congrArg (fun l => l[i]?) h1
 simp only [List.getElem?_map, List.getElem?_eq_getElem h2, List.getElem?_eq_getElem h3, Option.map_some, Option.some.injEq] at h4
 have g1 := ha _ (List.getElem_mem h2)
 have g2 := hb _ (List.getElem_mem h3)
 have h5 := congrArg UInt8.toNat h4
 simp only [UInt8.toNat_ofNat'] at h5
 omega
theorem Zmq {a b : List Int} (ha : Byt a) (hb : Byt b) : Zbi a b = some (decide (a = b)) := by
 rw [Zbi]
 congr 1
 by_cases h : a = b
 ·simp [h]
 ·have h2 : ¬ ZbS a = ZbS b := fun e => h (ZhG ha hb e)
  simp [h, h2]
def ZcQ (l : List (List Int)) : Prop := ∀ x ∈ l, Byt x ∧ x.length ≤ 100000
theorem Zfj (l : List Int) : (srt l).Perm l := List.mergeSort_perm _ _
theorem Zjw {l : List Int} (h : U64 l) : U64 (srt l) := fun x hx => h x ((Zfj l).mem_iff.1 hx)
theorem Zfk (l : List Int) : (srt l).Pairwise (· ≤ ·) := by
 have := List.pairwise_mergeSort (le := fun x y : Int => decide (x ≤ y)) (fun a b c h1 h2 => by simp at *; omega) (fun a b => by simp; omega) l
 exact this.imp (fun h => by simpa using h)
theorem Zk9 {l l' : List Int} (hp : l'.Perm l) (hs : l'.Pairwise (· ≤ ·)) : l' = srt l :=
 List.Perm.eq_of_pairwise (le := (· ≤ ·)) (fun a b _ _ h1 h2 => Int.le_antisymm h1 h2) hs (Zfk l) (hp.trans (Zfj l).symm)
theorem ZdW {α β : Type} (f : α → β) (l : List α) (i : Nat) (h : i < l.length) : (l.take (i + 1)).map f = (l.take i).map f ++ [f l[i]] := by
 rw [List.take_succ_eq_append_getElem h, List.map_append]
 rfl
theorem ZhH (k : Arr 2) (l : List (List Int)) (n m : Int) (hi : ZcQ l) (hl : l.length ≤ 100000) : XW k l n m = some (srt (l.map (Zb0 k n m))) := by
 rw [XW]
 obtain ⟨r, h1, rfl⟩ := YE (step := Za8 l k n m) (fun q s => ∃ i : Nat, s = ((i : Int), (l.take i).map (Zb0 k n m)) ∧ i ≤ l.length ∧ q = l.length - i) (fun r => r = srt (l.map (Zb0 k n m))) (by
  rintro q s ⟨i, rfl, hil, rfl⟩
  by_cases h : i < l.length
  ·refine .inl ⟨l.length - (i + 1), (((i + 1 : Nat) : Int), (l.take (i + 1)).map (Zb0 k n m)), by omega, ?_, i + 1, rfl, by omega, rfl⟩
   simp only [Za8, if_pos (show (i : Int) < (l.length : Int) by omega)]
   rw [YM h, ZnP k _ (hi _ (List.getElem_mem h)).2, Zj, Zmp, Zj, Zs (by simp; omega), wS (by omega), ZdW _ _ _ h]
   rfl
  ·refine .inr ⟨_, ?_, rfl⟩
   simp only [Za8, if_neg (show ¬ (i : Int) < (l.length : Int) by omega), ZcA]
   rw [List.take_of_length_le (by omega), Znh _ (by simp; omega), Zj, Zs (Zbe _)]
   rfl) _ (0, []) ⟨0, rfl, by omega, rfl⟩
 exact h1
theorem merge_loop : ∀ (n : Nat) (a b out : List Int), a.length + b.length = n → out.length + a.length + b.length ≤ 1000000 → a.Pairwise (· ≤ ·) → b.Pairwise (· ≤ ·) → ∃ r, Zr Lref19_sorted_s1 (a, b, out) = some (out ++ r) ∧ r.Perm (a ++ b) ∧ r.Pairwise (· ≤ ·) := by
 intro n
 induction n with
 | zero =>
  intro a b out h hn ha hb
  obtain rfl : a = [] := List.length_eq_zero_iff.1 (by omega)
  obtain rfl : b = [] := List.length_eq_zero_iff.1 (by omega)
  refine ⟨[], Yn ?_, List.Perm.refl _, List.Pairwise.nil⟩
  have ho : out.length ≤ 1000000 := by simpa using hn
  simp only [Lref19_sorted_s1, Zae, List.length_nil]
  rw [if_neg (by omega), Zs (by omega), Zs (by omega)]
  simp
 | succ n ih =>
  intro a b out h hn ha hb
  match a, b with
  | [], b =>
   refine ⟨b, Yn ?_, List.Perm.refl _, hb⟩
   simp only [Lref19_sorted_s1, List.length_nil, Zae]
   rw [if_neg (by omega), Zs (by simp at hn; omega), Zs (by simp at hn; omega)]
   simp
  | x :: a, [] =>
   refine ⟨x :: a, Yn ?_, by simp, ha⟩
   simp only [Lref19_sorted_s1, List.length_nil, Zae]
   rw [if_neg (by omega), Zs (by simp at hn ⊢; omega), Zs (by simp at hn ⊢; omega)]
   simp
  | x :: a, y :: b =>
   simp only [List.length_cons] at h hn
   obtain ⟨hxa, ha'⟩ := List.pairwise_cons.1 ha
   obtain ⟨hyb, hb'⟩ := List.pairwise_cons.1 hb
   by_cases hxy : x ≤ y
   ·obtain ⟨r, h1, h2, h3⟩ := ih a (y :: b) (out ++ [x]) (by simp; omega) (by simp; omega) ha' hb
    refine ⟨x :: r, ?_, by simpa using h2, ?_⟩
    ·rw [ZZ (s' := (a, y :: b, out ++ [x])), h1]
     ·simp
     ·simp only [Lref19_sorted_s1, List.length_cons]
      rw [if_pos (by omega)]
      simp only [List.getElem?_cons_zero, Zj, if_pos hxy]
      rw [Zs (by omega), Zs (by omega)]
      rfl
    ·refine List.pairwise_cons.2 ⟨fun z hz => ?_, h3⟩
     rcases List.mem_append.1 (h2.mem_iff.1 hz) with h | h
     ·exact hxa z h
     ·rcases List.mem_cons.1 h with rfl | h
      ·exact hxy
      ·exact Int.le_trans hxy (hyb z h)
   ·obtain ⟨r, h1, h2, h3⟩ := ih (x :: a) b (out ++ [y]) (by simp; omega) (by simp; omega) ha hb'
    refine ⟨y :: r, ?_, ?_, ?_⟩
    ·rw [ZZ (s' := (x :: a, b, out ++ [y])), h1]
     ·simp
     ·simp only [Lref19_sorted_s1, List.length_cons]
      rw [if_pos (by omega)]
      simp only [List.getElem?_cons_zero, Zj, if_neg hxy]
      rw [Zs (by omega), Zs (by omega)]
      rfl
    ·exact (h2.cons y).trans List.perm_middle.symm
    ·refine List.pairwise_cons.2 ⟨fun z hz => ?_, h3⟩
     rcases List.mem_append.1 (h2.mem_iff.1 hz) with h | h
     ·rcases List.mem_cons.1 h with rfl | h
      ·omega
      ·exact Int.le_trans (by omega) (hxa z h)
     ·exact hyb z h
theorem rsorted_n : ∀ (n : Nat) (l : List Int), l.length < n → l.length ≤ 1000000 → Lref19_sorted_n n l = some (srt l) := by
 intro n
 induction n with
 | zero => intro l h; omega
 | succ n ih =>
  intro l h hl
  rw [Lref19_sorted_n, Zby]
  by_cases h2 : l.length < 2
  ·rw [if_pos (by omega)]
   congr 1
   refine Zk9 (List.Perm.refl _) ?_
   match l, h2 with
   | [], _ => exact List.Pairwise.nil
   | [x], _ => simp
  ·have e : IntKind.i64.wrap (((l.length : Int)).tdiv 2) = ((l.length / 2 : Nat) : Int) := by
    rw [Int.tdiv_eq_ediv_of_nonneg (by omega), wi _ (by omega)]; omega
   rw [if_neg (by omega), e, Zs (by omega), show (((l.length / 2 : Nat) : Int)).toNat = l.length / 2 by omega, ih _ (by simp; omega) (by simp; omega), Zj, Zs (by omega), ih _ (by simp; omega) (by simp; omega), Zj]
   obtain ⟨r, h1, h2, h3⟩ := merge_loop _ (srt (l.take (l.length / 2))) (srt (l.drop (l.length / 2))) [] rfl (by simp [Zbe]; omega) (Zfk _) (Zfk _)
   rw [h1, List.nil_append]
   congr 1
   refine Zk9 ?_ h3
   refine h2.trans (((Zfj _).append (Zfj _)).trans ?_)
   rw [List.take_append_drop]
theorem rsorted_more : ∀ (n k : Nat) (l x : List Int), Lref19_sorted_n n l = some x → Lref19_sorted_n (n + k) l = some x := by
 intro n
 induction n with
 | zero => intro k l x h; simp [Lref19_sorted_n] at h
 | succ n ih =>
  intro k l x h
  rw [show n + 1 + k = n + k + 1 by omega]
  rw [Lref19_sorted_n, Zby] at h ⊢
  split
  ·rename_i g
   rw [if_pos g] at h
   exact h
  ·rename_i g
   rw [if_neg g] at h
   refine Zcv h fun _ h => ?_
   cases h1 : Lref19_sorted_n n (l.take ((IntKind.i64.wrap (((l.length : Int)).tdiv 2)).toNat)) with
   | none => rw [h1] at h; cases h
   | some y =>
    rw [h1] at h
    rw [ih k _ _ h1]
    refine Zcv (x := some y) h fun y2 h => Zcv h fun _ h => ?_
    cases h2 : Lref19_sorted_n n (l.drop ((IntKind.i64.wrap (((l.length : Int)).tdiv 2)).toNat)) with
    | none => rw [h2] at h; cases h
    | some z =>
     rw [h2] at h
     rw [ih k _ _ h2]
     exact h
theorem ZgY (l : List Int) (hl : l.length ≤ 1000000) : Zb2 l = some (srt l) :=
 Zhx (g := fun n => Lref19_sorted_n n l) (fun n k x h => rsorted_more n k l x h) (rsorted_n (l.length + 1) l (by omega) hl)
def dfs (acc : List (List Int)) : List (List Int) → List (List Int)
 | [] => acc
 | x :: l => if x ∈ acc then dfs acc l else dfs (acc ++ [x]) l
theorem dfs_snoc : ∀ (l acc : List (List Int)) (x : List Int), dfs acc (l ++ [x]) = if x ∈ dfs acc l then dfs acc l else dfs acc l ++ [x]
 | [], acc, x => by by_cases h : x ∈ acc <;> simp [dfs, h]
 | y :: l, acc, x => by
  simp only [List.cons_append, dfs]
  split <;> exact dfs_snoc l _ x
theorem dfs_mem : ∀ (l acc : List (List Int)) (x : List Int), x ∈ dfs acc l ↔ x ∈ acc ∨ x ∈ l
 | [], acc, x => by simp [dfs]
 | y :: l, acc, x => by
  simp only [dfs]
  split
  ·rename_i h
   rw [dfs_mem l acc x]
   simp only [List.mem_cons]
   constructor
   ·rintro (h | h) <;> simp [h]
   ·rintro (h1 | rfl | h1) <;> simp [*]
  ·rw [dfs_mem l _ x]
   simp [or_assoc]
theorem dfs_len : ∀ (l acc : List (List Int)), (dfs acc l).length ≤ acc.length + l.length
 | [], acc => by simp [dfs]
 | y :: l, acc => by
  simp only [dfs]
  split
  ·have := dfs_len l acc; simp; omega
  ·have := dfs_len l (acc ++ [y]); simp at this ⊢; omega
theorem Zcl {α : Type} (l : List α) (i : Nat) (h : i < l.length) : l.take (i + 1) = l.take i ++ [l[i]] := List.take_succ_eq_append_getElem h
theorem Zmr (l : List (List Int)) (hi : ZcQ l) (hl : l.length ≤ 100000) : XM l = some (dfs [] l) := by
 rw [XM]
 obtain ⟨r, h1, rfl⟩ := YE (step := ZaD l) (fun q s => ∃ i : Nat, s = ((i : Int), dfs [] (l.take i)) ∧ i ≤ l.length ∧ q = l.length - i) (fun r => r = dfs [] l) (by
  rintro q s ⟨i, rfl, hil, rfl⟩
  by_cases h : i < l.length
  ·refine .inl ⟨l.length - (i + 1), (((i + 1 : Nat) : Int), dfs [] (l.take (i + 1))), by omega, ?_, i + 1, rfl, by omega, rfl⟩
   simp only [ZaD, if_pos (show (i : Int) < (l.length : Int) by omega)]
   rw [YM h, Zs (by omega)]
   have hx := (hi _ (List.getElem_mem h)).1
   obtain ⟨r, g1, g2⟩ := YE (step := ZaC l (i : Int) l[i] (dfs [] (l.take i))) (fun q s => ∃ j : Nat, s = (decide (l[i] ∈ (l.take i).take j), (j : Int)) ∧ j ≤ i ∧ q = i - j) (fun r => r = .inl (((i + 1 : Nat) : Int), dfs [] (l.take (i + 1)))) (by
    rintro q s ⟨j, rfl, hj, rfl⟩
    have hn : ((i : Int)).toNat = i := by omega
    have hlen : (l.take i).length = i := by simp; omega
    by_cases hji : j < i
    ·have hjl : j < (l.take i).length := by omega
     refine .inl ⟨i - (j + 1), (decide (l[i] ∈ (l.take i).take (j + 1)), ((j + 1 : Nat) : Int)), by omega, ?_, j + 1, rfl, by omega, rfl⟩
     have hy := (hi _ (List.mem_of_mem_take (List.getElem_mem hjl))).1
     simp only [ZaC, hn, if_pos (show (j : Int) < ((l.take i).length : Int) by omega)]
     rw [YM hjl, Zcl _ _ hjl, Zmq hx hy, Zj]
     by_cases hm : l[i] ∈ (l.take i).take j
     ·simp only [hm, decide_true, if_true, Zj, Bool.or_false]
      rw [wS (by omega)]
      simp [hm]
     ·simp only [hm, decide_false, Bool.false_eq_true, if_false, Zj, Bool.false_or]
      rw [wS (by omega)]
      simp [hm]
    ·refine .inr ⟨_, ?_, rfl⟩
     simp only [ZaC, hn, if_neg (show ¬ (j : Int) < ((l.take i).length : Int) by omega), Zcc, X3]
     rw [List.take_of_length_le (by omega), Zcl _ _ h, dfs_snoc]
     have hm := dfs_mem (l.take i) [] l[i]
     have hdl := dfs_len (l.take i) []
     by_cases hq : l[i] ∈ l.take i
     ·rw [if_neg (by simp [hq]), if_pos (hm.2 (.inr hq)), wS (by omega)]
      rfl
     ·rw [if_pos (by simp [hq]), Zs (by simp at hdl; omega), if_neg (fun e => hq (by simpa using hm.1 e)), wS (by omega)]
      rfl) _ (false, 0) ⟨0, by simp, by omega, rfl⟩
   rw [g1, g2]
  ·refine .inr ⟨_, ?_, rfl⟩
   simp only [ZaD, if_neg (show ¬ (i : Int) < (l.length : Int) by omega), Zcb]
   rw [List.take_of_length_le (by omega)]
   rfl) _ (0, []) ⟨0, rfl, by omega, rfl⟩
 exact h1
def BR (k : Arr 2) (l : List (List Int)) (p m : Int) (r : Tapi_Filter × Int) : Prop :=
 (4096 < l.length ∧ r = ((0, []), 4)) ∨ (l.length ≤ 4096 ∧ (((m < 1 ∨ 1099511627776 < m) ∨ p < 0) ∨ 32 < p) ∧ r = ((0, []), 5)) ∨ (l.length ≤ 4096 ∧ ¬ (((m < 1 ∨ 1099511627776 < m) ∨ p < 0) ∨ 32 < p) ∧ ER (srt ((dfs [] l).map (Zb0 k ((dfs [] l).length : Int) m))) p r)
theorem Zla {k : Arr 2} {l : List (List Int)} {p m : Int} {r r' : Tapi_Filter × Int} (h : BR k l p m r) (h' : BR k l p m r') : r = r' := by
 unfold BR at h h'
 rcases h with ⟨a1, rfl⟩ | ⟨a1, a2, rfl⟩ | ⟨a1, a2, a3⟩
 ·rcases h' with ⟨b1, rfl⟩ | ⟨b1, b2, rfl⟩ | ⟨b1, b2, b3⟩ <;> first | rfl | (exfalso; omega)
 ·rcases h' with ⟨b1, rfl⟩ | ⟨b1, b2, rfl⟩ | ⟨b1, b2, b3⟩ <;> first | rfl | (exfalso; omega)
 ·rcases h' with ⟨b1, rfl⟩ | ⟨b1, b2, rfl⟩ | ⟨b1, b2, b3⟩ <;> first | (exfalso; omega) | exact ZhA a3 b3
theorem ZhI {l : List (List Int)} (h : ZcQ l) : ZcQ (dfs [] l) := fun x hx => h x (by simpa using (dfs_mem l [] x).1 hx)
theorem ZiJ (k : Arr 2) (l : List (List Int)) (p m : Int) (hi : ZcQ l) (hl : l.length ≤ 100000) : ∃ r, X6 k l p m = some r ∧ BR k l p m r := by
 rw [X6]
 by_cases h1 : 4096 < l.length
 ·rw [if_pos (by omega)]
  exact ⟨_, rfl, .inl ⟨h1, rfl⟩⟩
 ·rw [if_neg (by omega)]
  by_cases h2 : ((m < 1 ∨ 1099511627776 < m) ∨ p < 0) ∨ 32 < p
  ·rw [if_pos h2]
   exact ⟨_, rfl, .inr (.inl ⟨by omega, h2, rfl⟩)⟩
  ·rw [if_neg h2]
   refine YE (step := ZaG l k m p) (fun q s => ∃ (i : Nat) (mp : List (ByteArray × Bool)), s = ((i : Int), mp, dfs [] (l.take i)) ∧ i ≤ l.length ∧ (∀ x, Byt x → ((Zde (ZbS x) mp).getD false = true ↔ x ∈ dfs [] (l.take i))) ∧ q = l.length - i) _ ?_ _ _ ⟨0, [], rfl, by omega, fun x _ => by simp [Zde, dfs], rfl⟩
   rintro q s ⟨i, mp, rfl, hil, hmp, rfl⟩
   have hdl := dfs_len (l.take i) []
   by_cases h : i < l.length
   ·have hx := (hi _ (List.getElem_mem h)).1
    by_cases hq : l[i] ∈ dfs [] (l.take i)
    ·refine .inl ⟨l.length - (i + 1), (((i + 1 : Nat) : Int), mp, dfs [] (l.take (i + 1))), by omega, ?_, i + 1, mp, rfl, by omega, ?_, rfl⟩
     ·simp only [ZaG, if_pos (show (i : Int) < (l.length : Int) by omega)]
      rw [YM h, if_neg (by simp [(hmp _ hx).2 hq]), Zad, wS (by omega), Zcl _ _ h, dfs_snoc, if_pos hq]
     ·intro x hb
      rw [hmp x hb, Zcl _ _ h, dfs_snoc, if_pos hq]
    ·refine .inl ⟨l.length - (i + 1), (((i + 1 : Nat) : Int), Zdv (ZbS l[i]) true mp, dfs [] (l.take (i + 1))), by omega, ?_, i + 1, _, rfl, by omega, ?_, rfl⟩
     ·simp only [ZaG, if_pos (show (i : Int) < (l.length : Int) by omega)]
      rw [YM h, if_pos (fun e => hq ((hmp _ hx).1 e)), Zs (by simp at hdl; omega), Zad, wS (by omega), Zcl _ _ h, dfs_snoc, if_neg hq]
     ·intro x hb
      rw [Zkf, Zcl _ _ h, dfs_snoc, if_neg hq]
      by_cases e : x = l[i]
      ·subst e; simp
      ·rw [if_neg (fun e2 => e (ZhG hb hx e2)), hmp x hb]
       simp [e]
   ·have hdi := ZhI hi
    have hdl2 := dfs_len l []
    simp only [List.length_nil, Nat.zero_add] at hdl2
    obtain ⟨r, g1, g2, g3⟩ := ZiH (srt ((dfs [] l).map (Zb0 k ((dfs [] l).length : Int) m))) p (Zjw (Zjv _ _ _ _)) (by rw [Zbe]; simp; omega)
    refine .inr ⟨r, ?_, .inr (.inr ⟨by omega, h2, g3⟩)⟩
    simp only [ZaG, if_neg (show ¬ (i : Int) < (l.length : Int) by omega), ZcV]
    rw [List.take_of_length_le (by omega), ZhH k _ _ m hdi (by omega), Zj, g1, Zj]
    rfl
theorem Zlb (k : Arr 2) (l : List (List Int)) (p m : Int) (hi : ZcQ l) (hl : l.length ≤ 100000) : ∃ r, Zar k l p m = some r ∧ BR k l p m r := by
 rw [Zar]
 by_cases h1 : 4096 < l.length
 ·rw [if_pos (by omega)]
  exact ⟨_, rfl, .inl ⟨h1, rfl⟩⟩
 ·rw [if_neg (by omega)]
  by_cases h2 : ((m < 1 ∨ 1099511627776 < m) ∨ p < 0) ∨ 32 < p
  ·rw [if_pos h2]
   exact ⟨_, rfl, .inr (.inl ⟨by omega, h2, rfl⟩)⟩
  ·rw [if_neg h2, Zmr l hi hl, Zj]
   have hdi := ZhI hi
   have hdl2 := dfs_len l []
   simp only [List.length_nil, Nat.zero_add] at hdl2
   generalize hde : dfs [] l = d at hdi hdl2
   refine YE (step := Zbz d k m p) (fun q s => ∃ i : Nat, s = ((i : Int), (d.take i).map (Zb0 k (d.length : Int) m)) ∧ i ≤ d.length ∧ q = d.length - i) _ ?_ _ _ ⟨0, rfl, by omega, rfl⟩
   rintro q s ⟨i, rfl, hil, rfl⟩
   by_cases h : i < d.length
   ·refine .inl ⟨d.length - (i + 1), (((i + 1 : Nat) : Int), (d.take (i + 1)).map (Zb0 k (d.length : Int) m)), by omega, ?_, i + 1, rfl, by omega, rfl⟩
    simp only [Zbz, if_pos (show (i : Int) < (d.length : Int) by omega)]
    rw [Za4 h, Zc3 h, ZhF k _ _ _ (hdi _ (List.getElem_mem h)).2, Zj, Zs (by simp; omega), wS (by omega), ZdW _ _ _ h]
   ·obtain ⟨r, g1, g2, g3⟩ := ZiH (srt (d.map (Zb0 k (d.length : Int) m))) p (Zjw (Zjv _ _ _ _)) (by rw [Zbe]; simp; omega)
    refine .inr ⟨r, ?_, .inr (.inr ⟨by omega, h2, by rw [hde]; exact g3⟩)⟩
    simp only [Zbz, if_neg (show ¬ (i : Int) < (d.length : Int) by omega), Zdf]
    rw [List.take_of_length_le (by omega), ZgY _ (by simp; omega), Zj, g2, Zj]
    rfl
theorem Zkg (k : Arr 2) (l : List (List Int)) (p m : Int) (hi : ZcQ l) (hl : l.length ≤ 100000) : ∃ r, X6 k l p m = some r ∧ Zar k l p m = some r ∧ BR k l p m r := by
 obtain ⟨r, h1, h2⟩ := ZiJ k l p m hi hl
 obtain ⟨r', h3, h4⟩ := Zlb k l p m hi hl
 exact ⟨r, h1, by rw [h3, Zla h4 h2], h2⟩
theorem vb40 : VB [40] 6 := ⟨by intro x hx; simp at hx; omega, rfl, fun i hi => by
 rcases Nat.lt_or_ge i 8 with h | h
 ·obtain rfl | rfl : i = 6 ∨ i = 7 := by omega
  ·decide
  ·decide
 ·rw [bt, show [(40 : Int)].getD (i / 8) 0 = 0 by rw [List.getD_eq_getElem?_getD, List.getElem?_eq_none (by simp; omega)]; rfl]
  exact Zju _⟩
theorem sane_eq : Llaw19_sane = some true := by
 obtain ⟨r, h1, h2⟩ := ZhB [1, 3] 2 (by intro x hx; simp at hx; omega) (by simp)
 obtain ⟨r', h3, h4⟩ := ZiJ (⟨[0, 0], rfl⟩ : Arr 2) [] 2 5 (by intro x hx; cases hx) (by simp)
 have e1 : r = ((2, [40]), 0) := by
  rcases h2 with ⟨a1, _⟩ | ⟨_, a2, _⟩ | ⟨_, _, _, a4, _⟩ | ⟨_, _, _, _, a5⟩
  ·simp at a1
  ·omega
  ·exact absurd (fun i h => by
    have : i = 0 := by simp at h; omega
    subst this
    show (1 : Int) ≤ 3
    decide) a4
  ·have eB : Zgw (2 : Int).toNat 0 0 [1, 3] = some [false, false, true, false, true, false] := by decide
   rw [eB] at a5
   obtain ⟨y, rfl, _, g2, g3⟩ := a5
   have : y.1 = [40] := Zk1 g2 vb40 (by
    rw [g3]
    decide)
   rw [this]
   rfl
 have e2 : r' = ((0, []), 0) := by
  rcases h4 with ⟨a1, _⟩ | ⟨_, a2, _⟩ | ⟨_, _, a3⟩
  ·simp at a1
  ·omega
  ·rcases a3 with ⟨a1, _⟩ | ⟨_, a2, _⟩ | ⟨_, _, _, a4, _⟩ | ⟨_, _, _, _, a5⟩
   ·simp [srt, dfs] at a1
   ·omega
   ·exact absurd (fun i h => by simp [srt, dfs] at h) a4
   ·simp only [dfs, List.map_nil, srt, List.mergeSort_nil, Zgw] at a5
    obtain ⟨y, rfl, _, g2, g3⟩ := a5
    have : y.1 = [] := List.length_eq_zero_iff.1 (by have := g2.len; simpa using this)
    rw [this]
    rfl
 subst e1 e2
 rw [Llaw19_sane, h1, Zj, h3, Zj]
 simp
end Go.Lc
end
section
namespace Go.Lc
open Go.RowKit
open Go.Av
set_option linter.unusedVariables false
set_option linter.unusedSimpArgs false
set_option maxRecDepth 100000
theorem Zjx (l : List (List Int)) (n m : Int) (hl : l.length ≤ 9223372036854775807) : ∃ b, ZaR l n m = some b ∧ (b = true → (l.length : Int) ≤ n ∧ ∀ x ∈ l, (x.length : Int) ≤ m) := by
 rw [ZaR]
 by_cases h1 : n < (l.length : Int)
 ·rw [if_pos h1]
  exact ⟨false, rfl, by simp⟩
 ·rw [if_neg h1]
  refine YE (step := Zbl l m) (fun q s => ∃ i : Nat, s = (i : Int) ∧ i ≤ l.length ∧ (∀ x ∈ l.take i, (x.length : Int) ≤ m) ∧ q = l.length - i) _ ?_ _ _ ⟨0, rfl, by omega, by simp, rfl⟩
  rintro q s ⟨i, rfl, hi, hx, rfl⟩
  by_cases h : i < l.length
  ·by_cases hm : m < (l[i].length : Int)
   ·refine .inr ⟨false, ?_, by simp⟩
    simp only [Zbl, if_pos (show (i : Int) < (l.length : Int) by omega)]
    rw [YM h, if_pos hm]
   ·refine .inl ⟨l.length - (i + 1), ((i + 1 : Nat) : Int), by omega, ?_, i + 1, rfl, by omega, ?_, rfl⟩
    ·simp only [Zbl, if_pos (show (i : Int) < (l.length : Int) by omega)]
     rw [YM h, if_neg hm, wS (by omega)]
    ·intro x hxm
     rw [Zcl _ _ h] at hxm
     rcases List.mem_append.1 hxm with hxm | hxm
     ·exact hx x hxm
     ·rw [List.mem_singleton.1 hxm]; omega
  ·refine .inr ⟨true, ?_, fun _ => ⟨by omega, fun x hxm => hx x (by rwa [List.take_of_length_le (by omega)])⟩⟩
   simp only [Zbl, if_neg (show ¬ (i : Int) < (l.length : Int) by omega), Lkeep_Items_k1]
   rfl
def Zhe (l : List (List Int)) : Prop := l.length ≤ 9223372036854775807 ∧ ∀ x ∈ l, x.length ≤ 9223372036854775807 ∧ ∀ b ∈ x, 0 ≤ b ∧ b ≤ 255
theorem ZiK {l : List (List Int)} {m : Int} (h : Zhe l) (hm : m ≤ 100000) (hx : ∀ x ∈ l, (x.length : Int) ≤ m) : ZcQ l := fun x hxm => ⟨(h.2 x hxm).2, by have := hx x hxm; omega⟩
end Go.Lc
end
section
namespace Go.Lc
open Go.RowKit
open Go.Av
set_option linter.unusedVariables false
set_option linter.unusedSimpArgs false
set_option maxRecDepth 100000
def XS (out : List Int) : List Int → List Int
 | [] => out
 | v :: l => if out.getLast? = some v then XS out l else XS (out ++ [v]) l
theorem adjF_snoc : ∀ (l out : List Int) (v : Int), XS out (l ++ [v]) = if (XS out l).getLast? = some v then XS out l else XS out l ++ [v]
 | [], out, v => by by_cases h : out.getLast? = some v <;> simp [XS, h]
 | w :: l, out, v => by
  simp only [List.cons_append, XS]
  split <;> exact adjF_snoc l _ v
theorem ZiL (l : List Int) (v : Int) : (l ++ [v]).getLast? = some v := by simp
theorem Zlc (l : List Int) (v : Int) : (XS [] (l ++ [v])).getLast? = some v := by
 rw [adjF_snoc]
 split
 ·assumption
 ·exact ZiL _ _
theorem adjF_len : ∀ (l out : List Int), (XS out l).length ≤ out.length + l.length
 | [], out => by simp [XS]
 | v :: l, out => by
  simp only [XS]
  split
  ·have := adjF_len l out; simp; omega
  ·have := adjF_len l (out ++ [v]); simp at this ⊢; omega
theorem Zeu (l : List Int) (i : Nat) (h : i < l.length) : l.take (i + 1) = l.take i ++ [l[i]] := List.take_succ_eq_append_getElem h
theorem Zcw (l : List Int) (i : Nat) (h : i < l.length) : (XS [] (l.take (i + 1))).getLast? = some l[i] := by
 rw [Zeu _ _ h]
 exact Zlc _ _
theorem Zkh (l : List Int) (hl : l.length ≤ 1000000) : Yw l = some (XS [] l) := by
 rw [Yw]
 by_cases h2 : l.length < 2
 ·rw [if_pos (by omega)]
  match l, h2 with
  | [], _ => rfl
  | [x], _ => simp [XS]
 ·rw [if_neg (by omega)]
  obtain ⟨r, h1, rfl⟩ := YE (step := YS l) (fun m s => ∃ k : Nat, s = ((k + 1 : Nat) : Int) ∧ k + 1 ≤ l.length ∧ XS [] (l.take (k + 1)) = l.take (k + 1) ∧ m = l.length - k) (fun r => r = XS [] l) (by
   rintro m s ⟨k, rfl, hk, ha, rfl⟩
   by_cases h : k + 1 < l.length
   ·have h0 : k < l.length := by omega
    have hst : YS l ((k + 1 : Nat) : Int) = if l[k + 1] = l[k] then (chk (0 ≤ ((k + 1 : Nat) : Int) ∧ ((k + 1 : Nat) : Int) ≤ (l.length : Int))).bind fun _ => Zr (YC l ((k + 1 : Nat) : Int)) (((k + 1 : Nat) : Int), 1, l) else some (.inl ((k + 1 + 1 : Nat) : Int)) := by
     simp only [YS, if_pos (show ((k + 1 : Nat) : Int) < (l.length : Int) by omega), wP (show k < 9223372036854775807 by omega), wS (show k + 1 < 9223372036854775807 by omega)]
     rw [Za4 h, Zc3 h, Za4 h0, Zc3 h0]
    by_cases he : l[k + 1] = l[k]
    ·refine .inr ⟨XS [] l, ?_, rfl⟩
     rw [hst, if_pos he, Zs (by omega)]
     obtain ⟨r, g1, rfl⟩ := YE (step := YC l ((k + 1 : Nat) : Int)) (fun m s => ∃ (p j : Nat) (q : List Int), s = ((p : Int), ((j + 1 : Nat) : Int), q) ∧ k + 1 + (j + 1) ≤ l.length ∧ p ≤ k + 1 + j ∧ q.length = l.length ∧ q.take p = XS [] (l.take (k + 1 + (j + 1))) ∧ (∀ i (hi : i < l.length) (hq : i < q.length), k + 1 + j ≤ i → q[i] = l[i]) ∧ m = l.length - j) (fun r => r = .inr (XS [] l)) (by
      rintro m s ⟨p, j, q, rfl, hj, hp, hql, hqt, hqi, rfl⟩
      have en : (((k + 1 : Nat) : Int)).toNat = k + 1 := by omega
      by_cases hlt : k + 1 + (j + 1) < l.length
      ·have i1 : k + 1 + (j + 1) < q.length := by omega
       have i0 : k + 1 + j < q.length := by omega
       have i2 : k + 1 + j < l.length := by omega
       have hn : j + 1 < l.length - (k + 1) := by omega
       have hn0 : j < l.length - (k + 1) := by omega
       have e1 := hqi (k + 1 + (j + 1)) hlt i1 (by omega)
       have e0 := hqi (k + 1 + j) i2 i0 (by omega)
       have hlast := Zcw l (k + 1 + j) i2
       rw [show k + 1 + j + 1 = k + 1 + (j + 1) by omega] at hlast
       have hsn : XS [] (l.take (k + 1 + (j + 1 + 1))) = if l[k + 1 + j] = l[k + 1 + (j + 1)] then XS [] (l.take (k + 1 + (j + 1))) else XS [] (l.take (k + 1 + (j + 1))) ++ [l[k + 1 + (j + 1)]] := by
        rw [show k + 1 + (j + 1 + 1) = k + 1 + (j + 1) + 1 by omega, Zeu _ _ hlt, adjF_snoc, hlast]
        by_cases e : l[k + 1 + j] = l[k + 1 + (j + 1)] <;> simp [e]
       have hst2 : YC l ((k + 1 : Nat) : Int) ((p : Int), ((j + 1 : Nat) : Int), q) = if ¬ (l[k + 1 + (j + 1)] = l[k + 1 + j]) then (inA q.length (p : Int)).bind fun j150 => Z5 ((j + 1 : Nat) : Int) (IntKind.i64.wrap ((p : Int) + 1)) (q.set j150 l[k + 1 + (j + 1)]) else Z5 ((j + 1 : Nat) : Int) (p : Int) q := by
        simp only [YC, en, if_pos (show ((j + 1 : Nat) : Int) < ((l.length - (k + 1) : Nat) : Int) by omega), wP (show j < 9223372036854775807 by omega)]
        rw [Za4 hn, Zc3 i1, Za4 hn0, Zc3 i0, e1, e0]
       by_cases hv : l[k + 1 + (j + 1)] = l[k + 1 + j]
       ·refine .inl ⟨l.length - (j + 1), ((p : Int), ((j + 1 + 1 : Nat) : Int), q), by omega, ?_, p, j + 1, q, rfl, by omega, by omega, hql, ?_, fun i hi hq hk => hqi i hi hq (by omega), rfl⟩
        ·rw [hst2, if_neg (by simp [hv]), Z5, wS (by omega)]
        ·rw [hqt, hsn, if_pos hv.symm]
       ·have hpq : p < q.length := by omega
        refine .inl ⟨l.length - (j + 1), (((p + 1 : Nat) : Int), ((j + 1 + 1 : Nat) : Int), q.set p l[k + 1 + (j + 1)]), by omega, ?_, p + 1, j + 1, _, rfl, by omega, by omega, by simpa using hql, ?_, ?_, rfl⟩
        ·rw [hst2, if_pos hv, Za4 hpq, Z5, wS (by omega), wS (by omega)]
        ·rw [Zeu _ _ (by simpa using hpq), List.take_set_of_le (Nat.le_refl _), hqt, hsn, if_neg (fun e => hv e.symm)]
         simp
        ·intro i hi hq hk
         rw [List.getElem_set_ne (by omega)]
         exact hqi i hi (by omega) (by omega)
      ·have e : k + 1 + (j + 1) = l.length := by omega
       refine .inr ⟨_, ?_, rfl⟩
       simp only [YC, en, if_neg (show ¬ ((j + 1 : Nat) : Int) < ((l.length - (k + 1) : Nat) : Int) by omega), XO]
       rw [Zs (by omega), Zs (by rw [Zj9]; omega), show ((p : Int)).toNat = p by omega, Ziy, hqt, e, List.take_of_length_le (Nat.le_refl _)]
       rfl) _ (((k + 1 : Nat) : Int), 1, l) ⟨k + 1, 0, l, rfl, by omega, by omega, rfl, by
       rw [show k + 1 + (0 + 1) = k + 1 + 1 by omega, Zeu _ _ h, adjF_snoc, Zcw l k h0, he, if_pos rfl, ha], fun i hi hq hk => rfl, rfl⟩
     exact g1
    ·refine .inl ⟨l.length - (k + 1), ((k + 1 + 1 : Nat) : Int), by omega, by rw [hst, if_neg he], k + 1, rfl, by omega, ?_, rfl⟩
     rw [Zeu _ _ h, adjF_snoc, Zcw l k h0, if_neg (by simp; exact fun e => he e.symm), ha]
   ·refine .inr ⟨l, ?_, ?_⟩
    ·simp only [YS, if_neg (show ¬ ((k + 1 : Nat) : Int) < (l.length : Int) by omega), XN]
     rfl
    ·rw [List.take_of_length_le (by omega)] at ha
     exact ha.symm) _ 1 ⟨0, rfl, by omega, by
    have h0 : 0 < l.length := by omega
    rw [Zeu _ _ h0]
    simp [XS], rfl⟩
  exact h1
noncomputable def VR (k : Arr 2) (l : List (List Int)) (n m : Int) : List Int × Int := if 4096 < l.length then ([], 4) else if ((n < 0 ∨ 4096 < n) ∨ m < 1) ∨ 1099511627776 < m then ([], 5) else (XS [] (srt (l.map (Zb0 k n m))), 0)
theorem Zki (k : Arr 2) (l : List (List Int)) (n m : Int) (hi : ZcQ l) (hl : l.length ≤ 100000) : Zah k l n m = some (VR k l n m) := by
 rw [Zah, VR]
 by_cases h1 : 4096 < l.length
 ·rw [if_pos (by omega), if_pos h1]
 ·rw [if_neg (by omega), if_neg h1]
  by_cases h2 : ((n < 0 ∨ 4096 < n) ∨ m < 1) ∨ 1099511627776 < m
  ·rw [if_pos h2, if_pos h2]
  ·rw [if_neg h2, if_neg h2, ZhH k l n m hi hl, Zj, Zkh _ (by rw [Zbe]; simp; omega), Zj]
theorem Zkj (k : Arr 2) (l : List (List Int)) (n m : Int) (hi : ZcQ l) (hl : l.length ≤ 100000) : Zaz k l n m = some (VR k l n m) := by
 rw [Zaz, VR]
 by_cases h1 : 4096 < l.length
 ·rw [if_pos (by omega), if_pos h1]
 ·rw [if_neg (by omega), if_neg h1]
  by_cases h2 : ((n < 0 ∨ 4096 < n) ∨ m < 1) ∨ 1099511627776 < m
  ·rw [if_pos h2, if_pos h2]
  ·rw [if_neg h2, if_neg h2]
   obtain ⟨r, h3, rfl⟩ := YE (step := Zbr l k n m) (fun q s => ∃ i : Nat, s = ((i : Int), (l.take i).map (Zb0 k n m)) ∧ i ≤ l.length ∧ q = l.length - i) (fun r => r = (XS [] (srt (l.map (Zb0 k n m))), 0)) (by
    rintro q s ⟨i, rfl, hil, rfl⟩
    by_cases h : i < l.length
    ·refine .inl ⟨l.length - (i + 1), (((i + 1 : Nat) : Int), (l.take (i + 1)).map (Zb0 k n m)), by omega, ?_, i + 1, rfl, by omega, rfl⟩
     simp only [Zbr, if_pos (show (i : Int) < (l.length : Int) by omega)]
     rw [YM h, ZhF k _ _ _ (hi _ (List.getElem_mem h)).2, Zj, Zs (by simp; omega), wS (by omega), ZdW _ _ _ h]
    ·refine .inr ⟨_, ?_, rfl⟩
     simp only [Zbr, if_neg (show ¬ (i : Int) < (l.length : Int) by omega), ZcZ]
     rw [List.take_of_length_le (by omega), ZgY _ (by simp; omega), Zj]
     have hsl : (srt (l.map (Zb0 k n m))).length = l.length := by rw [Zbe]; simp
     generalize srt (l.map (Zb0 k n m)) = y at hsl
     obtain ⟨r, g1, rfl⟩ := YE (step := Zbq y) (fun q s => ∃ i : Nat, s = ((i : Int), XS [] (y.take i)) ∧ i ≤ y.length ∧ q = y.length - i) (fun r => r = (XS [] y, 0)) (by
      rintro q s ⟨i, rfl, hil, rfl⟩
      by_cases h : i < y.length
      ·refine .inl ⟨y.length - (i + 1), (((i + 1 : Nat) : Int), XS [] (y.take (i + 1))), by omega, ?_, i + 1, rfl, by omega, rfl⟩
       have hal := adjF_len (y.take i) []
       simp at hal
       simp only [Zbq, if_pos (show (i : Int) < (y.length : Int) by omega)]
       rw [YM h, Zeu _ _ h, adjF_snoc]
       rcases Nat.eq_zero_or_pos i with h0 | h0
       ·subst h0
        simp only [show ((0 : Nat) : Int) = 0 from rfl, if_true, Zj, true_or]
        rw [Zs (by simp [XS]), Xy]
        simp [XS]
        rfl
       ·obtain ⟨j, rfl⟩ : ∃ j, i = j + 1 := ⟨i - 1, by omega⟩
        have hj : j < y.length := by omega
        have hlast := Zcw y j hj
        generalize XS [] (y.take (j + 1)) = out at hlast hal
        have hne : out ≠ [] := by rintro rfl; simp at hlast
        have hol : 0 < out.length := List.length_pos_iff.2 hne
        have ho : out.length - 1 < out.length := by omega
        have hov : out[out.length - 1] = y[j] := by
         rw [List.getLast?_eq_getElem?, List.getElem?_eq_getElem ho] at hlast
         exact Option.some.inj hlast
        rw [if_neg (by omega), show IntKind.i64.wrap ((out.length : Int) - 1) = ((out.length - 1 : Nat) : Int) by rw [wi _ (by omega)]; omega, Za4 ho, Zc3 ho, hov, Zj, hlast]
        by_cases e : y[j + 1] = y[j]
        ·rw [if_neg (by simp [e]; omega), if_pos (by rw [e]), Xy, wS (by omega)]
        ·rw [if_pos (by simp [e]), Zs (by omega), if_neg (by simp; exact fun h => e h.symm), Xy, wS (by omega)]
      ·refine .inr ⟨_, ?_, rfl⟩
       simp only [Zbq, if_neg (show ¬ (i : Int) < (y.length : Int) by omega), ZcY]
       rw [List.take_of_length_le (by omega)]
       rfl) _ (0, []) ⟨0, rfl, by omega, rfl⟩
     rw [g1]
     rfl) _ (0, []) ⟨0, rfl, by omega, rfl⟩
   exact h3
theorem Zld (k : Arr 2) (l : List (List Int)) (n m : Int) (hl : l.length ≤ 100000) : (VR k l n m).1.length ≤ 100000 := by
 unfold VR
 split
 ·simp
 ·split
  ·simp
  ·have := adjF_len (srt (l.map (Zb0 k n m))) []
   rw [Zbe] at this
   simp at this ⊢
   omega
end Go.Lc
end
section
namespace Go.Lc
open Go.RowKit
open Go.Av
set_option linter.unusedVariables false
set_option linter.unusedSimpArgs false
set_option maxRecDepth 100000
theorem Zjy {d : List Int} (h : Byt d) : VB d (8 * d.length) := ⟨h, by omega, fun i hi => by
 rw [bt, show d.getD (i / 8) 0 = 0 by rw [List.getD_eq_getElem?_getD, List.getElem?_eq_none (by omega)]; rfl]
 exact Zju _⟩
def Za5 (d : List Int) (a : Nat) : Nat → Int
 | 0 => 0
 | p + 1 => 2 * Za5 d a p + (if bt d (a + p) = true then 1 else 0)
theorem Zfl (d : List Int) (a : Nat) : ∀ p, 0 ≤ Za5 d a p ∧ Za5 d a p < 2 ^ p
 | 0 => by simp [Za5]
 | p + 1 => by
  have := Zfl d a p
  rw [Za5, Int.pow_succ]
  split <;> omega
theorem or1 {x : Nat} (h : 2 * x + 1 ≤ 18446744073709551615) : bits .or .u64 (2 * (x : Int)) 1 = 2 * (x : Int) + 1 := by
 show IntKind.u64.wrap ((BitVec.ofInt 64 (2 * (x : Int)) ||| BitVec.ofInt 64 1).toNat : Int) = _
 rw [BitVec.toNat_or]
 have e1 : (BitVec.ofInt 64 (2 * (x : Int))).toNat = 2 * x := by
  simp [BitVec.toNat_ofInt]
  omega
 have e2 : (BitVec.ofInt 64 1).toNat = 1 := rfl
 have e3 := Nat.two_pow_add_eq_or_of_lt (i := 1) (b := 1) (by omega) x
 rw [e1, e2, show 2 * x ||| 1 = 2 * x + 1 by simpa using e3.symm, wu _ (by omega)]
 omega
theorem Zle {p q : Nat} (h : p ≤ q) : (2 : Int) ^ p ≤ 2 ^ q := by
 have := Nat.pow_le_pow_right (n := 2) (by omega) h
 exact_mod_cast this
theorem ZhJ (d : List Int) (n : Int) (a p : Nat) (hb : Byt d) (hp : p ≤ 40) (hl : a + p ≤ 8 * d.length) (hd : d.length ≤ 400000) : Zas (d, n) (a : Int) (p : Int) = some (Za5 d a p) := by
 rw [Zas]
 obtain ⟨r, h, rfl⟩ := YE (step := ZbB (p : Int) (d, n) (a : Int)) (fun q s => ∃ i : Nat, s = (Za5 d a i, (i : Int)) ∧ i ≤ p ∧ q = p - i) (fun r => r = Za5 d a p) (by
  rintro q s ⟨i, rfl, hi, rfl⟩
  by_cases h : i < p
  ·have hr := Zfl d a i
   have hpw : (2 : Int) ^ i ≤ 2 ^ 39 := Zle (by omega)
   have e39 : (2 : Int) ^ 39 = 549755813888 := rfl
   refine .inl ⟨p - (i + 1), (Za5 d a (i + 1), ((i + 1 : Nat) : Int)), by omega, ?_, i + 1, rfl, by omega, rfl⟩
   simp only [ZbB, if_pos (show (i : Int) < (p : Int) by omega), ZaX]
   rw [wA (by omega), ZiE hb (by omega) (by omega), Zj, wS (by omega), Za5]
   obtain ⟨x, hx⟩ : ∃ x : Nat, Za5 d a i = (x : Int) := ⟨(Za5 d a i).toNat, by omega⟩
   rw [hx] at hr ⊢
   rw [wu _ (by omega), Int.mul_comm (x : Int) 2]
   by_cases hbt : bt d (a + i) = true
   ·rw [if_pos hbt, if_pos hbt, or1 (by omega)]
   ·rw [if_neg hbt, if_neg hbt, Int.add_zero]
  ·refine .inr ⟨_, ?_, rfl⟩
   simp only [ZbB, if_neg (show ¬ (i : Int) < (p : Int) by omega), Zdg]
   rw [show i = p by omega]
   rfl) _ (0, 0) ⟨0, rfl, by omega, rfl⟩
 exact h
theorem ZgZ (d : List Int) (n : Int) (a p : Nat) (hb : Byt d) (hp : p ≤ 40) (hl : a + p ≤ 8 * d.length) (hd : d.length ≤ 400000) : X9 (d, n) (a : Int) (p : Int) = some (Za5 d a p) := by
 rw [X9]
 obtain ⟨r, h, rfl⟩ := YE (step := Zbs (a : Int) (p : Int) (d, n)) (fun q s => ∃ i : Nat, s = (Za5 d a i, ((a + i : Nat) : Int)) ∧ i ≤ p ∧ q = p - i) (fun r => r = Za5 d a p) (by
  rintro q s ⟨i, rfl, hi, rfl⟩
  have ea : IntKind.i64.wrap ((a : Int) + (p : Int)) = ((a + p : Nat) : Int) := wA (by omega)
  by_cases h : i < p
  ·have hr := Zfl d a i
   have hpw : (2 : Int) ^ i ≤ 2 ^ 39 := Zle (by omega)
   have e39 : (2 : Int) ^ 39 = 549755813888 := rfl
   refine .inl ⟨p - (i + 1), (Za5 d a (i + 1), ((a + (i + 1) : Nat) : Int)), by omega, ?_, i + 1, rfl, by omega, rfl⟩
   simp only [Zbs, ea, if_pos (show ((a + i : Nat) : Int) < ((a + p : Nat) : Int) by omega), ZaI]
   rw [ZfZ hb (by omega) (by omega), Zj, wS (by omega), Za5]
   rw [wu (Za5 d a i * 2) (by omega), Int.mul_comm _ 2]
   by_cases hbt : bt d (a + i) = true
   ·rw [if_pos hbt, if_pos hbt, wu _ (by omega)]
    rfl
   ·rw [if_neg hbt, if_neg hbt, Int.add_zero]
    rfl
  ·refine .inr ⟨_, ?_, rfl⟩
   simp only [Zbs, ea, if_neg (show ¬ ((a + i : Nat) : Int) < ((a + p : Nat) : Int) by omega), Zc0]
   rw [show i = p by omega]
   rfl) _ (0, (a : Int)) ⟨0, by simp [Za5], by omega, rfl⟩
 exact h
def ones (d : List Int) : Nat → Nat → Nat
 | 0, _ => 0
 | f + 1, a => if bt d a = true then ones d f (a + 1) + 1 else 0
theorem ZdQ (d : List Int) : ∀ (j f a : Nat), j ≤ f → (∀ i, i < j → bt d (a + i) = true) → ones d f a = ones d (f - j) (a + j) + j
 | 0, f, a, _, _ => rfl
 | j + 1, f, a, h, hb => by
  obtain ⟨f, rfl⟩ : ∃ g, f = g + 1 := ⟨f - 1, by omega⟩
  rw [ones, if_pos (by simpa using hb 0 (by omega)), ZdQ d j f (a + 1) (by omega) (fun i hi => by have := hb (i + 1) (by omega); rwa [show a + (i + 1) = a + 1 + i by omega] at this)]
  rw [show f + 1 - (j + 1) = f - j by omega, show a + 1 + j = a + (j + 1) by omega]
  omega
def RRS (d : List Int) (n a p : Nat) : Int × Nat × Int :=
 if 65536 < ones d (n - a) a then (0, 0, 4) else if n - (a + ones d (n - a) a) < 1 + p then (0, 0, 1) else
  (bits .or .u64 (IntKind.u64.wrap ((ones d (n - a) a : Int) * 2 ^ p)) (Za5 d (a + ones d (n - a) a + 1) p), a + ones d (n - a) a + 1 + p, 0)
theorem Zlf {d : List Int} {n a p : Nat} (h : (RRS d n a p).2.2 = 0) (ha : a ≤ n) : (RRS d n a p).2.1 ≤ n := by
 unfold RRS at h ⊢
 split
 ·simp
 ·split
  ·simp
  ·simp only
   omega
theorem Znn (d : List Int) (n a p : Nat) (hv : VB d n) (hn : n ≤ 1600000) (ha : a ≤ n) (hp : p ≤ 32) : Zai (d, (n : Int)) (a : Int) (p : Int) = some ((RRS d n a p).1, (((RRS d n a p).2.1 : Nat) : Int), (RRS d n a p).2.2) := by
 have hlen := hv.len
 rw [Zai, Zgv hv hn, Zj, if_neg (by simp), if_neg (by simp only; omega)]
 obtain ⟨r, h, rfl⟩ := YE (step := XY (d, (n : Int)) (a : Int) (p : Int)) (fun q s => ∃ j : Nat, s = ((a + j : Nat) : Int) ∧ a + j ≤ n ∧ j ≤ 65536 ∧ (∀ i, i < j → bt d (a + i) = true) ∧ q = n - (a + j)) (fun r => r = ((RRS d n a p).1, (((RRS d n a p).2.1 : Nat) : Int), (RRS d n a p).2.2)) (by
  rintro q s ⟨j, rfl, hj, hj6, hb, rfl⟩
  have hsp := ZdQ d j (n - a) a (by omega) hb
  by_cases h : a + j < n ∧ bt d (a + j) = true
  ·obtain ⟨h1, h2⟩ := h
   have hsp1 := ZdQ d (j + 1) (n - a) a (by omega) (fun i hi => by
    by_cases e : i = j
    ·subst e; exact h2
    ·exact hb i (by omega))
   have hst : XY (d, (n : Int)) (a : Int) (p : Int) ((a + j : Nat) : Int) = if 65536 < ((j + 1 : Nat) : Int) then some (.inr (0, 0, 4)) else some (.inl ((a + (j + 1) : Nat) : Int)) := by
    simp only [XY, if_pos (show ((a + j : Nat) : Int) < (n : Int) by omega)]
    rw [ZiE hv.byt (by omega) (by omega), Zj, h2, Zj, if_pos ⟨by omega, rfl⟩, wS (by omega), wi _ (by omega), show ((a + j + 1 : Nat) : Int) - (a : Int) = ((j + 1 : Nat) : Int) by omega]
    rfl
   by_cases h6 : 65536 < j + 1
   ·refine .inr ⟨(0, 0, 4), by rw [hst, if_pos (by omega)], ?_⟩
    unfold RRS
    rw [if_pos (by omega)]
    rfl
   ·exact .inl ⟨n - (a + (j + 1)), _, by omega, by rw [hst, if_neg (by omega)], j + 1, rfl, by omega, by omega, fun i hi => by
     by_cases e : i = j
     ·subst e; exact h2
     ·exact hb i (by omega), rfl⟩
  ·have hk : ones d (n - a) a = j := by
    rw [hsp]
    have : ones d (n - a - j) (a + j) = 0 := by
     rcases Nat.eq_zero_or_pos (n - a - j) with h0 | h0
     ·rw [h0]; rfl
     ·obtain ⟨f, hf⟩ : ∃ f, n - a - j = f + 1 := ⟨n - a - j - 1, by omega⟩
      rw [hf, ones, if_neg (fun e => h ⟨by omega, e⟩)]
    omega
   have hst : XY (d, (n : Int)) (a : Int) (p : Int) ((a + j : Nat) : Int) = (Zau (d, (n : Int)) ((a + j : Nat) : Int) (p : Int) (a : Int)).map Sum.inr := by
    simp only [XY]
    by_cases h1 : a + j < n
    ·have h2 : bt d (a + j) = false := by
      cases e : bt d (a + j) with
      | false => rfl
      | true => exact absurd ⟨h1, e⟩ h
     rw [if_pos (by omega), ZiE hv.byt (by omega) (by omega), Zj, h2, Zj, if_neg (by simp)]
    ·rw [if_neg (by omega), Zj, if_neg (by simp)]
   have hR : RRS d n a p = if n - (a + j) < 1 + p then (0, 0, 1) else (bits .or .u64 (IntKind.u64.wrap ((j : Int) * 2 ^ p)) (Za5 d (a + j + 1) p), a + j + 1 + p, 0) := by
    unfold RRS
    rw [hk, if_neg (by omega)]
   refine .inr ⟨_, ?_, rfl⟩
   rw [hst, Zau, hR]
   simp only
   rw [wi ((n : Int) - ((a + j : Nat) : Int)) (by omega), wi (1 + (p : Int)) (by omega)]
   by_cases h2 : n - (a + j) < 1 + p
   ·rw [if_pos (by omega), if_pos h2]
    rfl
   ·rw [if_neg (by omega), if_neg h2, Zs (by omega), wS (by omega), ZhJ d _ (a + j + 1) p hv.byt (by omega) (by omega) (by omega), Zj, wA (by omega), wi (((a + j : Nat) : Int) - (a : Int)) (by omega), show ((a + j : Nat) : Int) - (a : Int) = (j : Int) by omega, wu (j : Int) (by omega), show min ((p : Int)).toNat 64 = p by omega]
    rfl) _ (a : Int) ⟨0, rfl, by omega, by omega, fun i hi => by omega, rfl⟩
 exact h
theorem ZnQ (d : List Int) (n a p : Nat) (hv : VB d n) (hn : n ≤ 1600000) (ha : a ≤ n) (hp : p ≤ 32) : X1 (d, (n : Int)) (a : Int) (p : Int) = some ((RRS d n a p).1, (((RRS d n a p).2.1 : Nat) : Int), (RRS d n a p).2.2) := by
 have hlen := hv.len
 rw [X1, ZfM hv hn, Zj, if_neg (by simp), if_neg (by simp only; omega)]
 obtain ⟨r, h, rfl⟩ := YE (step := XP (a : Int) (d, (n : Int)) (p : Int)) (fun q s => ∃ j : Nat, s = (j : Int) ∧ a + j ≤ n ∧ j ≤ 65536 ∧ (∀ i, i < j → bt d (a + i) = true) ∧ q = n - (a + j)) (fun r => r = ((RRS d n a p).1, (((RRS d n a p).2.1 : Nat) : Int), (RRS d n a p).2.2)) (by
  rintro q s ⟨j, rfl, hj, hj6, hb, rfl⟩
  have hsp := ZdQ d j (n - a) a (by omega) hb
  have eaj : IntKind.i64.wrap ((a : Int) + (j : Int)) = ((a + j : Nat) : Int) := wA (by omega)
  by_cases h : a + j < n ∧ bt d (a + j) = true
  ·obtain ⟨h1, h2⟩ := h
   have hsp1 := ZdQ d (j + 1) (n - a) a (by omega) (fun i hi => by
    by_cases e : i = j
    ·subst e; exact h2
    ·exact hb i (by omega))
   have hst : XP (a : Int) (d, (n : Int)) (p : Int) (j : Int) = if 65536 < ((j + 1 : Nat) : Int) then some (.inr (0, 0, 4)) else some (.inl ((j + 1 : Nat) : Int)) := by
    simp only [XP, eaj, if_pos (show ((a + j : Nat) : Int) < (n : Int) by omega)]
    rw [ZfZ hv.byt (by omega) (by omega), Zj, h2, Zj, if_pos ⟨by omega, rfl⟩, wS (by omega)]
   by_cases h6 : 65536 < j + 1
   ·refine .inr ⟨(0, 0, 4), by rw [hst, if_pos (by omega)], ?_⟩
    unfold RRS
    rw [if_pos (by omega)]
    rfl
   ·exact .inl ⟨n - (a + (j + 1)), _, by omega, by rw [hst, if_neg (by omega)], j + 1, rfl, by omega, by omega, fun i hi => by
     by_cases e : i = j
     ·subst e; exact h2
     ·exact hb i (by omega), rfl⟩
  ·have hk : ones d (n - a) a = j := by
    rw [hsp]
    have : ones d (n - a - j) (a + j) = 0 := by
     rcases Nat.eq_zero_or_pos (n - a - j) with h0 | h0
     ·rw [h0]; rfl
     ·obtain ⟨f, hf⟩ : ∃ f, n - a - j = f + 1 := ⟨n - a - j - 1, by omega⟩
      rw [hf, ones, if_neg (fun e => h ⟨by omega, e⟩)]
    omega
   have hst : XP (a : Int) (d, (n : Int)) (p : Int) (j : Int) = (Zak (d, (n : Int)) (a : Int) (j : Int) (p : Int)).map Sum.inr := by
    simp only [XP, eaj]
    by_cases h1 : a + j < n
    ·have h2 : bt d (a + j) = false := by
      cases e : bt d (a + j) with
      | false => rfl
      | true => exact absurd ⟨h1, e⟩ h
     rw [if_pos (by omega), ZfZ hv.byt (by omega) (by omega), Zj, h2, Zj, if_neg (by simp)]
    ·rw [if_neg (by omega), Zj, if_neg (by simp)]
   have hR : RRS d n a p = if n - (a + j) < 1 + p then (0, 0, 1) else (bits .or .u64 (IntKind.u64.wrap ((j : Int) * 2 ^ p)) (Za5 d (a + j + 1) p), a + j + 1 + p, 0) := by
    unfold RRS
    rw [hk, if_neg (by omega)]
   refine .inr ⟨_, ?_, rfl⟩
   rw [hst, Zak, hR]
   simp only [eaj]
   rw [wi ((n : Int) - (a : Int)) (by omega), wi (_ - (j : Int)) (by omega), wi (1 + (p : Int)) (by omega)]
   by_cases h2 : n - (a + j) < 1 + p
   ·rw [if_pos (by omega), if_pos h2]
    rfl
   ·rw [if_neg (by omega), if_neg h2, Zs (by omega), wS (by omega), ZgZ d _ (a + j + 1) p hv.byt (by omega) (by omega) (by omega), Zj, wA (by omega), wu (j : Int) (by omega), show min ((p : Int)).toNat 64 = p by omega]
    rfl) _ 0 ⟨0, rfl, by omega, by omega, fun i hi => by omega, rfl⟩
 exact h
def Zdi (d : List Int) (n p : Nat) : Nat → Nat → Int → List Int → List Int × Int
 | 0, a, _, out => if 8 ≤ n - a then ([], 2) else if Za5 d a (n - a) = 0 then (out, 0) else ([], 3)
 | c + 1, a, s, out => if (RRS d n a p).2.2 = 0 then (if IntKind.u64.wrap (s + (RRS d n a p).1) < s then ([], 5) else Zdi d n p c (RRS d n a p).2.1 (IntKind.u64.wrap (s + (RRS d n a p).1)) (out ++ [IntKind.u64.wrap (s + (RRS d n a p).1)])) else ([], (RRS d n a p).2.2)
theorem Zms (c : Int) (d : List Int) (p : Nat) (hb : Byt d) (hd : d.length ≤ 200000) (hc : c ≤ 4096) (hp : p ≤ 32) : ∀ (k i a : Nat) (s : Int) (out : List Int), c - (i : Int) = (k : Int) → a ≤ 8 * d.length → out.length ≤ i → Zr (Zav (c, d) (p : Int)) (s, (a : Int), (i : Int), out) = some (Zdi d (8 * d.length) p k a s out) := by
 have hv := Zjy hb
 have e8 : IntKind.i64.wrap (8 * (d.length : Int)) = ((8 * d.length : Nat) : Int) := by rw [wi _ (by omega)]; omega
 intro k
 induction k with
 | zero =>
  intro i a s out hk ha ho
  refine YG ?_
  simp only [Zav, if_neg (show ¬ (i : Int) < c by omega), ZcB, e8, Zdi]
  rw [wi _ (by omega), show ((8 * d.length : Nat) : Int) - (a : Int) = ((8 * d.length - a : Nat) : Int) by omega]
  by_cases h8 : 8 ≤ 8 * d.length - a
  ·rw [if_pos (by omega), if_pos h8]
  ·rw [if_neg (by omega), if_neg h8, ZbZ, Zgv hv (by omega), Zj, if_neg (by simp), if_neg (by simp only; omega), wi _ (by omega), if_neg (by simp only; omega), ZhJ d _ a _ hb (by omega) (by omega) (by omega), Zj, Zj, if_neg (by simp)]
   by_cases h0 : Za5 d a (8 * d.length - a) = 0
   ·rw [if_neg (by simp [h0]), if_pos h0]
   ·rw [if_pos h0, if_neg h0]
 | succ k ih =>
  intro i a s out hk ha ho
  have hst : Zav (c, d) (p : Int) (s, (a : Int), (i : Int), out) = (if (RRS d (8 * d.length) a p).2.2 = 0 then (if IntKind.u64.wrap (s + (RRS d (8 * d.length) a p).1) < s then some (.inr ([], 5)) else some (.inl (IntKind.u64.wrap (s + (RRS d (8 * d.length) a p).1), (((RRS d (8 * d.length) a p).2.1 : Nat) : Int), ((i + 1 : Nat) : Int), out ++ [IntKind.u64.wrap (s + (RRS d (8 * d.length) a p).1)]))) else some (.inr ([], (RRS d (8 * d.length) a p).2.2))) := by
   simp only [Zav, if_pos (show (i : Int) < c by omega), e8]
   rw [Znn d _ a p hv (by omega) ha hp, Zj]
   by_cases h0 : (RRS d (8 * d.length) a p).2.2 = 0
   ·rw [if_neg (by simp [h0]), if_pos h0]
    simp only
    split
    ·rfl
    ·rw [Zs (by omega), wS (by omega)]
   ·rw [if_pos h0, if_neg h0]
  rw [Zdi]
  by_cases h0 : (RRS d (8 * d.length) a p).2.2 = 0
  ·rw [if_pos h0] at hst ⊢
   by_cases h1 : IntKind.u64.wrap (s + (RRS d (8 * d.length) a p).1) < s
   ·rw [if_pos h1] at hst ⊢
    exact Yn hst
   ·rw [if_neg h1] at hst ⊢
    rw [ZZ hst]
    exact ih (i + 1) _ _ _ (by omega) (Zlf h0 ha) (by simp; omega)
  ·rw [if_neg h0] at hst ⊢
   exact Yn hst
theorem Zlg (c : Int) (d : List Int) (p : Nat) (hb : Byt d) (hd : d.length ≤ 200000) (hc : c ≤ 4096) (hp : p ≤ 32) : ∀ (k a : Nat) (s : Int) (out : List Int), c - (out.length : Int) = (k : Int) → a ≤ 8 * d.length → Zr (ZaJ (c, d) (p : Int)) ((a : Int), s, out) = some (Zdi d (8 * d.length) p k a s out) := by
 have hv := Zjy hb
 have e8 : IntKind.i64.wrap (8 * (d.length : Int)) = ((8 * d.length : Nat) : Int) := by rw [wi _ (by omega)]; omega
 intro k
 induction k with
 | zero =>
  intro a s out hk ha
  refine YG ?_
  simp only [ZaJ, if_neg (show ¬ (out.length : Int) < c by omega), Zc1, e8, Zdi]
  rw [wi _ (by omega), show ((8 * d.length : Nat) : Int) - (a : Int) = ((8 * d.length - a : Nat) : Int) by omega]
  by_cases h8 : 8 ≤ 8 * d.length - a
  ·rw [if_pos (by omega), if_pos h8]
  ·rw [if_neg (by omega), if_neg h8, ZbC, ZfM hv (by omega), Zj, if_neg (by simp), if_neg (by simp only; omega), wi _ (by omega), if_neg (by simp only; omega), ZgZ d _ a _ hb (by omega) (by omega) (by omega), Zj, Zj]
   by_cases h0 : Za5 d a (8 * d.length - a) = 0
   ·rw [if_neg (by simp [h0]), if_pos h0]
   ·rw [if_pos h0, if_neg h0]
 | succ k ih =>
  intro a s out hk ha
  have hst : ZaJ (c, d) (p : Int) ((a : Int), s, out) = (if (RRS d (8 * d.length) a p).2.2 = 0 then (if IntKind.u64.wrap (s + (RRS d (8 * d.length) a p).1) < s then some (.inr ([], 5)) else some (.inl ((((RRS d (8 * d.length) a p).2.1 : Nat) : Int), IntKind.u64.wrap (s + (RRS d (8 * d.length) a p).1), out ++ [IntKind.u64.wrap (s + (RRS d (8 * d.length) a p).1)]))) else some (.inr ([], (RRS d (8 * d.length) a p).2.2))) := by
   simp only [ZaJ, if_pos (show (out.length : Int) < c by omega), e8]
   rw [ZnQ d _ a p hv (by omega) ha hp, Zj]
   by_cases h0 : (RRS d (8 * d.length) a p).2.2 = 0
   ·rw [if_neg (by simp [h0]), if_pos h0]
    simp only
    split
    ·rfl
    ·rw [Zs (by omega)]
   ·rw [if_pos h0, if_neg h0]
  rw [Zdi]
  by_cases h0 : (RRS d (8 * d.length) a p).2.2 = 0
  ·rw [if_pos h0] at hst ⊢
   by_cases h1 : IntKind.u64.wrap (s + (RRS d (8 * d.length) a p).1) < s
   ·rw [if_pos h1] at hst ⊢
    exact Yn hst
   ·rw [if_neg h1] at hst ⊢
    rw [ZZ hst]
    exact ih _ _ _ (by simp; omega) (Zlf h0 ha)
  ·rw [if_neg h0] at hst ⊢
   exact Yn hst
def DR (f : Tapi_Filter) (p : Int) : List Int × Int := if 4096 < f.1 ∨ 200000 < (f.2.length : Int) then ([], 4) else if (f.1 < 0 ∨ p < 0) ∨ 32 < p then ([], 5) else Zdi f.2 (8 * f.2.length) p.toNat f.1.toNat 0 0 []
theorem Zlh (f : Tapi_Filter) (p : Int) (hb : Byt f.2) : Zaj f p = some (DR f p) := by
 obtain ⟨c, d⟩ := f
 rw [Zaj, DR]
 simp only at hb ⊢
 by_cases h1 : 4096 < c ∨ 200000 < (d.length : Int)
 ·rw [if_pos h1, if_pos h1]
 ·rw [if_neg h1, if_neg h1]
  by_cases h2 : (c < 0 ∨ p < 0) ∨ 32 < p
  ·rw [if_pos h2, if_pos h2]
  ·rw [if_neg h2, if_neg h2, Zs (by omega)]
   obtain ⟨q, rfl⟩ : ∃ q : Nat, p = (q : Int) := ⟨p.toNat, by omega⟩
   exact Zms c d q hb (by omega) (by omega) (by omega) c.toNat 0 0 0 [] (by omega) (by omega) (by simp)
theorem Zkk (f : Tapi_Filter) (p : Int) (hb : Byt f.2) : ZaA f p = some (DR f p) := by
 obtain ⟨c, d⟩ := f
 rw [ZaA, DR]
 simp only at hb ⊢
 by_cases h1 : 4096 < c ∨ 200000 < (d.length : Int)
 ·rw [if_pos h1, if_pos h1]
 ·rw [if_neg h1, if_neg h1]
  by_cases h2 : (c < 0 ∨ p < 0) ∨ 32 < p
  ·rw [if_pos h2, if_pos h2]
  ·rw [if_neg h2, if_neg h2]
   obtain ⟨q, rfl⟩ : ∃ q : Nat, p = (q : Int) := ⟨p.toNat, by omega⟩
   exact Zlg c d q hb (by omega) (by omega) (by omega) c.toNat 0 0 [] (by simp; omega) (by omega)
theorem ZiM (d : List Int) (n p : Nat) : ∀ (c a : Nat) (s : Int) (out : List Int), (Zdi d n p c a s out).1.length ≤ out.length + c
 | 0, a, s, out => by
  rw [Zdi]
  split
  ·simp
  ·split <;> simp
 | c + 1, a, s, out => by
  rw [Zdi]
  split
  ·split
   ·simp
   ·have := ZiM d n p c (RRS d n a p).2.1 (IntKind.u64.wrap (s + (RRS d n a p).1)) (out ++ [IntKind.u64.wrap (s + (RRS d n a p).1)])
    simp at this
    omega
  ·simp
theorem Zli (f : Tapi_Filter) (p : Int) : (DR f p).1.length ≤ 4096 := by
 unfold DR
 split
 ·simp
 ·split
  ·simp
  ·have := ZiM f.2 (8 * f.2.length) p.toNat f.1.toNat 0 0 []
   simp at this
   omega
end Go.Lc
end
section
namespace Go.Lc
open Go.RowKit
open Go.Av
set_option linter.unusedVariables false
set_option linter.unusedSimpArgs false
set_option maxRecDepth 100000
theorem ZiN (d : List Int) (n p : Nat) : ∀ (c a : Nat) (s : Int) (out : List Int), out.Pairwise (· ≤ ·) → (∀ x ∈ out, x ≤ s) → (Zdi d n p c a s out).1.Pairwise (· ≤ ·)
 | 0, a, s, out, h, _ => by
  rw [Zdi]
  split
  ·exact List.Pairwise.nil
  ·split
   ·exact h
   ·exact List.Pairwise.nil
 | c + 1, a, s, out, h, hs => by
  rw [Zdi]
  split
  ·split
   ·exact List.Pairwise.nil
   ·rename_i h1
    refine ZiN d n p c _ _ _ ?_ ?_
    ·rw [List.pairwise_append]
     exact ⟨h, by simp, fun x hx y hy => by have := hs x hx; rw [List.mem_singleton.1 hy]; omega⟩
    ·intro x hx
     rcases List.mem_append.1 hx with hx | hx
     ·have := hs x hx; omega
     ·rw [List.mem_singleton.1 hx]; exact Int.le_refl _
  ·exact List.Pairwise.nil
theorem ZnR (f : Tapi_Filter) (p : Int) : (DR f p).1.Pairwise (· ≤ ·) := by
 unfold DR
 split
 ·exact List.Pairwise.nil
 ·split
  ·exact List.Pairwise.nil
  ·exact ZiN _ _ _ _ _ _ _ List.Pairwise.nil (by simp)
theorem adjF_sub : ∀ (l out : List Int), (XS out l).Sublist (out ++ l)
 | [], out => by simp [XS]
 | v :: l, out => by
  simp only [XS]
  split
  ·exact (adjF_sub l out).trans (List.Sublist.append_left (List.sublist_cons_self v l) out)
  ·have := adjF_sub l (out ++ [v])
   simpa using this
theorem ZnS (k : Arr 2) (l : List (List Int)) (n m : Int) : (VR k l n m).1.Pairwise (· ≤ ·) := by
 unfold VR
 split
 ·exact List.Pairwise.nil
 ·split
  ·exact List.Pairwise.nil
  ·exact (Zfk _).sublist (by simpa using adjF_sub (srt (l.map (Zb0 k n m))) [])
def Zg0 (w l : List Int) : Bool := w.any fun v => decide (v ∈ l)
theorem Zg1 (v : Int) (w l : List Int) : Zg0 (v :: w) l = (decide (v ∈ l) || Zg0 w l) := rfl
theorem Zkl (w l : List Int) (b c : Int) (hl : l.Pairwise (· ≤ ·)) (hw : w.Pairwise (· ≤ ·)) (hll : l.length ≤ 1000000) (hwl : w.length ≤ 1000000) : ∀ (t : List Int) (i j : Nat), w.drop j = t → j ≤ w.length → i ≤ l.length → (∀ x (hx : x < l.length), x < i → ∀ v ∈ t, l[x] < v) → Zr (ZaK (w, b) (l, c)) ((i : Int), (j : Int)) = some (Zg0 t l, 0) := by
 intro t
 induction t with
 | nil =>
  intro i j ht hj hi hlt
  have hjw : w.length ≤ j := List.drop_eq_nil_iff.1 ht
  refine YG ?_
  simp only [ZaK, if_neg (show ¬ (j : Int) < (w.length : Int) by omega), Lgolomb_Match_k1]
  rfl
 | cons v t ih =>
  intro i j ht hj hi hlt
  have hjw : j < w.length := by
   rcases Nat.lt_or_ge j w.length with h | h
   ·exact h
   ·rw [List.drop_eq_nil_of_le h] at ht; cases ht
  have hv : w[j] = v ∧ w.drop (j + 1) = t := by
   rw [List.drop_eq_getElem_cons hjw] at ht
   injection ht with h1 h2
   exact ⟨h1, h2⟩
  have hvt : ∀ u ∈ t, v ≤ u := by
   have hp : (w.drop j).Pairwise (· ≤ ·) := hw.sublist (List.drop_sublist j w)
   rw [ht] at hp
   exact (List.pairwise_cons.1 hp).1
  have hinner : ∃ r, Zr (XR (l, c) v (j : Int)) (i : Int) = some r ∧ ((v ∈ l ∧ r = .inr (true, 0)) ∨ (v ∉ l ∧ ∃ i', r = .inl (((i' : Nat) : Int), ((j + 1 : Nat) : Int)) ∧ i' ≤ l.length ∧ ∀ x (hx : x < l.length), x < i' → l[x] < v)) := by
   refine YE (step := XR (l, c) v (j : Int)) (fun q s => ∃ e : Nat, s = (e : Int) ∧ e ≤ l.length ∧ (∀ x (hx : x < l.length), x < e → l[x] < v) ∧ q = l.length - e) _ ?_ _ _ ⟨i, rfl, hi, fun x hx hxi => hlt x hx hxi v (by simp), rfl⟩
   rintro q s ⟨e, rfl, he, hex, rfl⟩
   by_cases h1 : e < l.length
   ·have hc : (e : Int) < (l.length : Int) := by omega
    by_cases h2 : l[e] < v
    ·refine .inl ⟨l.length - (e + 1), ((e + 1 : Nat) : Int), by omega, ?_, e + 1, rfl, by omega, ?_, rfl⟩
     ·simp only [XR, hc, if_true, true_and]
      rw [YM h1, Zj, if_pos (by simp [h2]), wS (by omega)]
     ·intro x hx hxe
      by_cases ee : x = e
      ·subst ee; exact h2
      ·exact hex x hx (by omega)
    ·have hst : XR (l, c) v (j : Int) (e : Int) = (XQ (e : Int) (l, c) v (j : Int)).map Sum.inr := by
      simp only [XR, hc, if_true, true_and]
      rw [YM h1, Zj, if_neg (by simp; omega)]
     have hk : XQ (e : Int) (l, c) v (j : Int) = if l[e] = v then some (.inr (true, 0)) else some (.inl ((e : Int), ((j + 1 : Nat) : Int))) := by
      simp only [XQ, hc, if_true, true_and]
      rw [YM h1, Zj, wS (by omega)]
      by_cases h3 : l[e] = v <;> simp [h3]
     by_cases h3 : l[e] = v
     ·exact .inr ⟨_, by rw [hst, hk, if_pos h3]; rfl, .inl ⟨h3 ▸ List.getElem_mem h1, rfl⟩⟩
     ·refine .inr ⟨_, by rw [hst, hk, if_neg h3]; rfl, .inr ⟨?_, e, rfl, he, hex⟩⟩
      intro hm
      obtain ⟨x, hx, hxv⟩ := List.getElem_of_mem hm
      rcases Nat.lt_or_ge x e with h | h
      ·have := hex x hx h; omega
      ·rcases Nat.lt_or_ge e x with h' | h'
       ·have := List.pairwise_iff_getElem.1 hl e x h1 hx h'; omega
       ·obtain rfl : x = e := by omega
        exact h3 hxv
   ·have hc : ¬ (e : Int) < (l.length : Int) := by omega
    refine .inr ⟨_, ?_, .inr ⟨?_, e, rfl, he, hex⟩⟩
    ·simp only [XR, hc, if_false, Zj, false_and, XQ]
     rw [wS (by omega)]
     rfl
    ·intro hm
     obtain ⟨x, hx, hxv⟩ := List.getElem_of_mem hm
     have := hex x hx (by omega); omega
  obtain ⟨r, h1, h2⟩ := hinner
  have hst : ZaK (w, b) (l, c) ((i : Int), (j : Int)) = some r := by
   simp only [ZaK, if_pos (show (j : Int) < (w.length : Int) by omega)]
   rw [YM hjw, hv.1, h1]
  rw [Zg1]
  rcases h2 with ⟨hm, rfl⟩ | ⟨hm, i', rfl, hi', hlt'⟩
  ·rw [Yn hst]
   simp [hm]
  ·rw [ZZ hst, ih i' (j + 1) hv.2 (by omega) hi' (fun x hx hxi u hu => by have := hlt' x hx hxi; have := hvt u hu; omega)]
   simp [hm]
theorem Zjf (w l : List Int) (b c : Int) (hll : l.length ≤ 1000000) (hwl : w.length ≤ 1000000) : ∀ (t : List Int) (j : Nat), w.drop j = t → j ≤ w.length → Zr (ZaZ (w, b) (l, c)) (j : Int) = some (Zg0 t l, 0) := by
 intro t
 induction t with
 | nil =>
  intro j ht hj
  have hjw : w.length ≤ j := List.drop_eq_nil_iff.1 ht
  refine YG ?_
  simp only [ZaZ, if_neg (show ¬ (j : Int) < (w.length : Int) by omega), Lref19_Match_k1]
  rfl
 | cons v t ih =>
  intro j ht hj
  have hjw : j < w.length := by
   rcases Nat.lt_or_ge j w.length with h | h
   ·exact h
   ·rw [List.drop_eq_nil_of_le h] at ht; cases ht
  have hv : w[j] = v ∧ w.drop (j + 1) = t := by
   rw [List.drop_eq_getElem_cons hjw] at ht
   injection ht with h1 h2
   exact ⟨h1, h2⟩
  obtain ⟨r, h1, h2⟩ := YE (step := ZaY (l, c) v (j : Int)) (fun q s => ∃ e : Nat, s = (e : Int) ∧ e ≤ l.length ∧ v ∉ l.take e ∧ q = l.length - e) (fun r => (v ∈ l ∧ r = .inr (true, 0)) ∨ (v ∉ l ∧ r = .inl ((j + 1 : Nat) : Int))) (by
   rintro q s ⟨e, rfl, he, hex, rfl⟩
   by_cases h1 : e < l.length
   ·by_cases h2 : v = l[e]
    ·refine .inr ⟨_, ?_, .inl ⟨h2 ▸ List.getElem_mem h1, rfl⟩⟩
     simp only [ZaY, if_pos (show (e : Int) < (l.length : Int) by omega)]
     rw [YM h1, if_pos h2]
    ·refine .inl ⟨l.length - (e + 1), ((e + 1 : Nat) : Int), by omega, ?_, e + 1, rfl, by omega, ?_, rfl⟩
     ·simp only [ZaY, if_pos (show (e : Int) < (l.length : Int) by omega)]
      rw [YM h1, if_neg h2, wS (by omega)]
     ·intro hm
      rw [Zeu _ _ h1] at hm
      rcases List.mem_append.1 hm with h | h
      ·exact hex h
      ·exact h2 (List.mem_singleton.1 h)
   ·refine .inr ⟨_, ?_, .inr ⟨by rwa [List.take_of_length_le (by omega)] at hex, rfl⟩⟩
    simp only [ZaY, if_neg (show ¬ (e : Int) < (l.length : Int) by omega), Zdh]
    rw [wS (by omega)]
    rfl) _ 0 ⟨0, rfl, by omega, by simp, rfl⟩
  have hst : ZaZ (w, b) (l, c) (j : Int) = some r := by
   simp only [ZaZ, if_pos (show (j : Int) < (w.length : Int) by omega)]
   rw [YM hjw, hv.1, h1]
  rw [Zg1]
  rcases h2 with ⟨hm, rfl⟩ | ⟨hm, rfl⟩
  ·rw [Yn hst]
   simp [hm]
  ·rw [ZZ hst, ih (j + 1) hv.2 (by omega)]
   simp [hm]
noncomputable def MR (k : Arr 2) (f : Tapi_Filter) (l : List (List Int)) (p m : Int) : Bool × Int := if (DR f p).2 = 0 then (if (VR k l f.1 m).2 = 0 then (Zg0 (VR k l f.1 m).1 (DR f p).1, 0) else (false, (VR k l f.1 m).2)) else (false, (DR f p).2)
theorem ZhK (k : Arr 2) (f : Tapi_Filter) (l : List (List Int)) (p m : Int) (hb : Byt f.2) (hi : ZcQ l) (hl : l.length ≤ 100000) : Zaa k f l p m = some (MR k f l p m) := by
 rw [Zaa, Zlh f p hb, Zj, MR]
 by_cases h1 : (DR f p).2 = 0
 ·rw [if_neg (by simp [h1]), if_pos h1, Zki k l f.1 m hi hl, Zj]
  by_cases h2 : (VR k l f.1 m).2 = 0
  ·rw [if_neg (by simp [h2]), if_pos h2]
   exact Zkl (VR k l f.1 m).1 (DR f p).1 (VR k l f.1 m).2 (DR f p).2 (ZnR f p) (ZnS k l f.1 m) (by have := Zli f p; omega) (by have := Zld k l f.1 m hl; omega) _ 0 0 rfl (by omega) (by omega) (fun x hx h => by omega)
  ·rw [if_pos h2, if_neg h2]
 ·rw [if_pos h1, if_neg h1]
theorem ZhL (k : Arr 2) (f : Tapi_Filter) (l : List (List Int)) (p m : Int) (hb : Byt f.2) (hi : ZcQ l) (hl : l.length ≤ 100000) : Zat k f l p m = some (MR k f l p m) := by
 rw [Zat, Zkk f p hb, Zj, MR]
 by_cases h1 : (DR f p).2 = 0
 ·rw [if_neg (by simp [h1]), if_pos h1, Zkj k l f.1 m hi hl, Zj]
  by_cases h2 : (VR k l f.1 m).2 = 0
  ·rw [if_neg (by simp [h2]), if_pos h2]
   exact Zjf (VR k l f.1 m).1 (DR f p).1 (VR k l f.1 m).2 (DR f p).2 (by have := Zli f p; omega) (by have := Zld k l f.1 m hl; omega) _ 0 rfl (by omega)
  ·rw [if_pos h2, if_neg h2]
 ·rw [if_pos h1, if_neg h1]
theorem ZnT {l : List Int} {p : Int} {r : Tapi_Filter × Int} (h : ER l p r) : Byt r.1.2 := by
 rcases h with ⟨_, rfl⟩ | ⟨_, _, rfl⟩ | ⟨_, _, _, _, rfl⟩ | ⟨_, _, _, _, h⟩
 ·intro x hx; cases hx
 ·intro x hx; cases hx
 ·intro x hx; cases hx
 ·unfold ESR at h
  split at h
  ·subst h; intro x hx; cases hx
  ·obtain ⟨y, rfl, hw⟩ := h
   exact hw.2.1.byt
theorem Zlj {k : Arr 2} {l : List (List Int)} {p m : Int} {r : Tapi_Filter × Int} (h : BR k l p m r) : Byt r.1.2 := by
 rcases h with ⟨_, rfl⟩ | ⟨_, _, rfl⟩ | ⟨_, _, h⟩
 ·intro x hx; cases hx
 ·intro x hx; cases hx
 ·exact ZnT h
theorem golombMatches (k : Arr 2) (f : Tapi_Filter) (o l : List (List Int)) (p m : Int) (hb : ∀ b ∈ f.2, 0 ≤ b ∧ b ≤ 255) (ho : Zhe o) (hi : Zhe l) : Xz k f o l p m = some true := by
 rw [Xz, sane_eq, Zj, if_neg (by simp)]
 by_cases hd : 400 < (f.2.length : Int)
 ·rw [if_pos hd, Zj, if_pos (.inl hd), Zj, if_pos (.inl (.inl hd))]
 ·obtain ⟨c, hc, hc2⟩ := Zjx o 30 60 ho.1
  obtain ⟨b, hb1, hb2⟩ := Zjx l 30 60 hi.1
  rw [if_neg hd, hc, Zj, Zj]
  cases c with
  | false => rw [if_pos (by simp), Zj, if_pos (by simp)]
  | true =>
   rw [if_neg (by simp; omega), hb1, Zj, Zj]
   cases b with
   | false => rw [if_pos (by simp)]
   | true =>
    obtain ⟨g1, g2⟩ := hc2 rfl
    obtain ⟨g3, g4⟩ := hb2 rfl
    have hoi := ZiK ho (by omega) g2
    have hli := ZiK hi (by omega) g4
    rw [if_neg (by simp; omega), ZhK k f l p m hb hli (by omega), Zj, ZhL k f l p m hb hli (by omega), Zj, if_neg (by simp)]
    obtain ⟨r, r1, r2, r3⟩ := Zkg k o p m hoi (by omega)
    rw [r2, Zj]
    by_cases h0 : r.2 = 0
    ·rw [if_neg (by simp [h0]), ZhK k r.1 l p m (Zlj r3) hli (by omega), Zj, ZhL k r.1 l p m (Zlj r3) hli (by omega), Zj]
     simp
    ·rw [if_pos h0]
end Go.Lc
end
