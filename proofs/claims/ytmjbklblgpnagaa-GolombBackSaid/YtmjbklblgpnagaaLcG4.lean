import Derived.Test.YtmjbklblgpnagaaLcG3
section
/- What is written comes back, and what is read is written again in the same way. -/
namespace Go.Lc
open Go.RowKit
open Go.Av
set_option linter.unusedVariables false
set_option linter.unusedSimpArgs false
set_option maxRecDepth 100000

/-! numbers -/
theorem numS_of (d : List Int) (a p : Nat) (v : Nat) : ∀ j, j ≤ p → (∀ i, i < j → bt d (a + i) = decide (((v : Int) / 2 ^ (p - 1 - i)) % 2 = 1)) → numS d a j = ((v / 2 ^ (p - j) % 2 ^ j : Nat) : Int)
 | 0, _, _ => by simp [numS, Nat.mod_one]
 | j + 1, hj, h => by
  have ih := numS_of d a p v j (by omega) (fun i hi => h i (by omega))
  have hb := h j (by omega)
  have e : p - j = (p - (j + 1)) + 1 := by omega
  have e2 : p - 1 - j = p - (j + 1) := by omega
  rw [e2] at hb
  generalize hk : p - (j + 1) = k at *
  rw [numS, ih, hb, e, Nat.pow_succ 2 k, ← Nat.div_div_eq_div_mul]
  have hc : ((v : Int) / 2 ^ k) = ((v / 2 ^ k : Nat) : Int) := by
   rw [Int.natCast_ediv]
   simp
  rw [hc]
  generalize v / 2 ^ k = u
  have hm := Nat.mod_mul (x := u) (a := 2) (b := 2 ^ j)
  rw [Nat.pow_succ, Nat.mul_comm (2 ^ j) 2, hm]
  have hu2 : u % 2 = 0 ∨ u % 2 = 1 := by omega
  rcases hu2 with h0 | h1
  ·rw [if_neg (by simp; omega), h0]
   omega
  ·rw [if_pos (by simp; omega), h1]
   omega
theorem bt_numS (d : List Int) (a : Nat) : ∀ (p i : Nat), i < p → bt d (a + i) = decide ((numS d a p / 2 ^ (p - 1 - i)) % 2 = 1)
 | 0, i, h => by omega
 | p + 1, i, h => by
  rw [numS]
  by_cases e : i = p
  ·subst e
   rw [show i + 1 - 1 - i = 0 by omega]
   cases hb : bt d (a + i) with
   | false => simp
   | true => simp
  ·have ih := bt_numS d a p i (by omega)
   rw [ih, show p + 1 - 1 - i = (p - 1 - i) + 1 by omega, Int.pow_succ, Int.mul_comm _ 2, ← Int.ediv_ediv_of_nonneg (by omega)]
   have : (2 * numS d a p + if bt d (a + p) = true then 1 else 0) / 2 = numS d a p := by split <;> omega
   rw [this]
theorem or_sum {q p : Nat} {low : Nat} (hl : low < 2 ^ p) (hs : q * 2 ^ p + low ≤ 18446744073709551615) : bits .or .u64 (IntKind.u64.wrap ((q : Int) * 2 ^ p)) (low : Int) = ((q * 2 ^ p + low : Nat) : Int) := by
 have e0 : (q : Int) * 2 ^ p = ((q * 2 ^ p : Nat) : Int) := by simp
 rw [e0, wu_nat (by omega)]
 show IntKind.u64.wrap ((BitVec.ofInt 64 ((q * 2 ^ p : Nat) : Int) ||| BitVec.ofInt 64 (low : Int)).toNat : Int) = _
 rw [BitVec.toNat_or]
 have e1 : (BitVec.ofInt 64 ((q * 2 ^ p : Nat) : Int)).toNat = q * 2 ^ p := by
  simp only [BitVec.toNat_ofInt]
  omega
 have e2 : (BitVec.ofInt 64 (low : Int)).toNat = low := by
  simp only [BitVec.toNat_ofInt]
  omega
 have e3 := Nat.two_pow_add_eq_or_of_lt hl q
 rw [e1, e2, Nat.mul_comm q, ← e3, wu_nat (by rw [Nat.mul_comm]; exact hs)]

/-! reading what was written -/
theorem get_rice {v : Int} {p : Nat} {d : List Int} {a : Nat} (hb : ∀ i (h : i < (rice v p).length), bt d (a + i) = (rice v p)[i]) :
  (∀ i, i < (v / 2 ^ p).toNat → bt d (a + i) = true) ∧ bt d (a + (v / 2 ^ p).toNat) = false ∧ ∀ i, i < p → bt d (a + (v / 2 ^ p).toNat + 1 + i) = decide ((v / 2 ^ (p - 1 - i)) % 2 = 1) := by
 have hl := rice_length v p
 refine ⟨fun i hi => ?_, ?_, fun i hi => ?_⟩
 ·rw [hb i (by omega)]
  simp only [rice]
  rw [List.getElem_append_left (by simpa using hi)]
  simp
 ·rw [hb _ (by omega)]
  simp only [rice]
  rw [List.getElem_append_right (by simp)]
  simp
 ·have := hb ((v / 2 ^ p).toNat + 1 + i) (by omega)
  rw [show a + (v / 2 ^ p).toNat + 1 + i = a + ((v / 2 ^ p).toNat + 1 + i) by omega, this]
  simp only [rice]
  rw [List.getElem_append_right (by simp; omega)]
  simp only [List.length_replicate, show (v / 2 ^ p).toNat + 1 + i - (v / 2 ^ p).toNat = i + 1 by omega, List.getElem_cons_succ, lowb, List.getElem_map, List.getElem_range]
theorem RRS_rice {d : List Int} {n a p : Nat} {v : Nat} (hb : ∀ i (h : i < (rice (v : Int) p).length), bt d (a + i) = (rice (v : Int) p)[i]) (hn : a + (rice (v : Int) p).length ≤ n) (hq : ((v : Int) / 2 ^ p) ≤ 65536) (hv : v ≤ 18446744073709551615) : RRS d n a p = ((v : Int), a + (rice (v : Int) p).length, 0) := by
 obtain ⟨h1, h2, h3⟩ := get_rice hb
 have hl := rice_length (v : Int) p
 have hqi : ((v : Int) / 2 ^ p) = ((v / 2 ^ p : Nat) : Int) := by rw [Int.natCast_ediv]; simp
 have hqe : ((v : Int) / 2 ^ p).toNat = v / 2 ^ p := by rw [hqi, Int.toNat_natCast]
 rw [hqe] at h1 h2 h3 hl
 rw [hqi] at hq
 have hq6 : v / 2 ^ p ≤ 65536 := Int.ofNat_le.1 hq
 clear hqi hq
 have ho : ones d (n - a) a = v / 2 ^ p := by
  rw [ones_spec d (v / 2 ^ p) (n - a) a (by omega) h1]
  have : ones d (n - a - v / 2 ^ p) (a + v / 2 ^ p) = 0 := by
   obtain ⟨f, hf⟩ : ∃ f, n - a - v / 2 ^ p = f + 1 := ⟨n - a - v / 2 ^ p - 1, by omega⟩
   rw [hf, ones, if_neg (by rw [h2]; simp)]
  omega
 have hnum := numS_of d (a + v / 2 ^ p + 1) p v p (Nat.le_refl _) h3
 rw [Nat.sub_self, Nat.pow_zero, Nat.div_one] at hnum
 unfold RRS
 rw [ho, if_neg (by omega), if_neg (by omega), hnum, or_sum (Nat.mod_lt _ (Nat.pow_pos (by omega))) (by have := Nat.div_add_mod v (2 ^ p); rw [Nat.mul_comm]; omega)]
 have := Nat.div_add_mod v (2 ^ p)
 rw [Nat.mul_comm] at this
 rw [this, hl]
 simp only [Nat.add_assoc]
theorem dec_enc (d : List Int) (n p : Nat) : ∀ (l : List Int) (a : Nat) (s : Int) (out : List Int) (B : List Bool), U64 l → chain s l → 0 ≤ s → encS p a s l = some B → (∀ i (h : i < B.length), bt d (a + i) = B[i]) → a + B.length ≤ n → ∃ s', decS d n p l.length a s out = decS d n p 0 (a + B.length) s' (out ++ l)
 | [], a, s, out, B, hu, hc, hs, he, hb, hn => by
  simp only [encS, Option.some.injEq] at he
  subst he
  exact ⟨s, by simp⟩
 | v :: l, a, s, out, B, hu, hc, hs, he, hb, hn => by
  obtain ⟨hsv, hc⟩ := hc
  have hvu := hu v (by simp)
  rw [encS] at he
  split at he
  ·cases he
  ·rename_i hlim
   obtain ⟨B2, hB2, rfl⟩ := Option.map_eq_some_iff.1 he
   obtain ⟨w, hw⟩ : ∃ w : Nat, v - s = (w : Int) := ⟨(v - s).toNat, by omega⟩
   have hl := rice_length (v - s) p
   rw [List.length_append] at hn
   have hR : RRS d n a p = (v - s, a + (rice (v - s) p).length, 0) := by
    rw [hw] at hlim hb hn ⊢
    exact RRS_rice (fun i h => by rw [hb i (by rw [List.length_append]; omega), List.getElem_append_left h]) (by omega) (by omega) (by omega)
   have hsum : IntKind.u64.wrap (s + (v - s)) = v := by rw [wu _ (by omega)]; omega
   have ih := dec_enc d n p l (a + (rice (v - s) p).length) v (out ++ [v]) B2 (fun x hx => hu x (by simp [hx])) hc (by omega) (by rw [hl, show a + (((v - s) / 2 ^ p).toNat + 1 + p) = a + ((v - s) / 2 ^ p).toNat + 1 + p by omega]; exact hB2) (fun i h => by
    have := hb ((rice (v - s) p).length + i) (by rw [List.length_append]; omega)
    rw [show a + (rice (v - s) p).length + i = a + ((rice (v - s) p).length + i) by omega, this, List.getElem_append_right (by omega)]
    simp) (by omega)
   obtain ⟨s', ih⟩ := ih
   refine ⟨s', ?_⟩
   have e1 : decS d n p (v :: l).length a s out = decS d n p l.length (a + (rice (v - s) p).length) v (out ++ [v]) := by
    rw [List.length_cons, decS, hR]
    simp only [hsum]
    rw [if_pos trivial, if_neg (by omega)]
   rw [e1, ih, List.length_append, Nat.add_assoc, List.append_assoc]
   rfl
theorem numS_zero (d : List Int) (a : Nat) : ∀ p, (∀ i, i < p → bt d (a + i) = false) → numS d a p = 0
 | 0, _ => rfl
 | p + 1, h => by
  rw [numS, numS_zero d a p (fun i hi => h i (by omega)), h p (by omega)]
  simp
theorem numS_zero_inv (d : List Int) (a p : Nat) (h : numS d a p = 0) (i : Nat) (hi : i < p) : bt d (a + i) = false := by
 rw [bt_numS d a p i hi, h]
 simp
theorem back_enc {l : List Int} {p : Nat} {B : List Bool} {y : List Int × Int} (hl : l.length ≤ 4096) (hp : p ≤ 32) (hu : U64 l) (ha : Asc l) (he : encS p 0 0 l = some B) (hB : B.length ≤ 1600000) (hw : Wr [] 0 B y) : DR ((l.length : Int), y.1) (p : Int) = (l, 0) := by
 obtain ⟨h1, h2, h3⟩ := hw
 rw [Nat.zero_add] at h2 h3
 have hlen := h2.len
 have hbl : bl y.1 B.length = B := h3
 have hb : ∀ i (h : i < B.length), bt y.1 (0 + i) = B[i] := by
  intro i h
  have := congrArg (fun l => l[i]?) hbl
  simp [bl, h] at this
  rw [Nat.zero_add]
  exact this
 obtain ⟨s', hd⟩ := dec_enc y.1 (8 * y.1.length) p l 0 0 [] B hu (asc_chain l 0 (fun h => (hu _ (List.getElem_mem h)).1) ha) (by omega) he hb (by omega)
 rw [DR]
 simp only
 rw [if_neg (by omega), if_neg (by omega), show ((p : Int)).toNat = p by omega, show ((l.length : Int)).toNat = l.length by omega, hd, decS, if_neg (by omega), if_pos (numS_zero _ _ _ fun i hi => h2.rest _ (by omega))]
 simp

/-! writing what was read -/
theorem ones_inv (d : List Int) : ∀ (f a : Nat), (∀ i, i < ones d f a → bt d (a + i) = true) ∧ (ones d f a < f → bt d (a + ones d f a) = false)
 | 0, a => ⟨fun i h => by simp [ones] at h, fun h => by simp [ones] at h⟩
 | f + 1, a => by
  rw [ones]
  by_cases hb : bt d a = true
  ·rw [if_pos hb]
   obtain ⟨h1, h2⟩ := ones_inv d f (a + 1)
   refine ⟨fun i hi => ?_, fun h => ?_⟩
   ·rcases Nat.eq_zero_or_pos i with h0 | h0
    ·subst h0; exact hb
    ·obtain ⟨j, rfl⟩ : ∃ j, i = j + 1 := ⟨i - 1, by omega⟩
     have := h1 j (by omega)
     rwa [show a + (j + 1) = a + 1 + j by omega]
   ·have := h2 (by omega)
    rwa [show a + (ones d f (a + 1) + 1) = a + 1 + ones d f (a + 1) by omega]
  ·rw [if_neg hb]
   exact ⟨fun i h => by omega, fun _ => by simpa using hb⟩
theorem RRS_ok {d : List Int} {n a p : Nat} (hp : p ≤ 32) (h : (RRS d n a p).2.2 = 0) : ∃ v : Nat, RRS d n a p = ((v : Int), a + (rice (v : Int) p).length, 0) ∧ (v : Int) / 2 ^ p ≤ 65536 ∧ a + (rice (v : Int) p).length ≤ n ∧ v ≤ 18446744073709551615 ∧ ∀ i (h : i < (rice (v : Int) p).length), bt d (a + i) = (rice (v : Int) p)[i] := by
 unfold RRS at h
 split at h
 ·simp at h
 ·split at h
  ·simp at h
  ·rename_i h1 h2
   obtain ⟨o1, o2⟩ := ones_inv d (n - a) a
   have o2' := o2 (by omega)
   have hR : RRS d n a p = (bits .or .u64 (IntKind.u64.wrap ((ones d (n - a) a : Int) * 2 ^ p)) (numS d (a + ones d (n - a) a + 1) p), a + ones d (n - a) a + 1 + p, 0) := by
    unfold RRS
    rw [if_neg h1, if_neg h2]
   generalize ones d (n - a) a = q at *
   have hr := numS_range d (a + q + 1) p
   obtain ⟨low, hlow⟩ : ∃ low : Nat, numS d (a + q + 1) p = (low : Int) := ⟨(numS d (a + q + 1) p).toNat, by omega⟩
   have hl2 : low < 2 ^ p := by
    have := hr.2
    rw [hlow] at this
    exact_mod_cast this
   have hp2 : 2 ^ p ≤ 2 ^ 32 := Nat.pow_le_pow_right (by omega) hp
   have hmul : q * 2 ^ p ≤ 65536 * 2 ^ 32 := Nat.mul_le_mul (by omega) hp2
   have hv : q * 2 ^ p + low ≤ 18446744073709551615 := by omega
   have hdiv : (q * 2 ^ p + low) / 2 ^ p = q := by
    rw [Nat.mul_comm, Nat.mul_add_div (Nat.pow_pos (by omega)), Nat.div_eq_of_lt hl2]
    omega
   have hdivI : ((q * 2 ^ p + low : Nat) : Int) / 2 ^ p = (q : Int) := by
    rw [show (2 : Int) ^ p = ((2 ^ p : Nat) : Int) by simp, ← Int.natCast_ediv, hdiv]
   have hrl := rice_length ((q * 2 ^ p + low : Nat) : Int) p
   rw [hdivI, show ((q : Int)).toNat = q by omega] at hrl
   refine ⟨q * 2 ^ p + low, ?_, by rw [hdivI]; omega, by omega, hv, ?_⟩
   ·rw [hR, hlow, or_sum hl2 hv, hrl]
    simp only [Nat.add_assoc]
   ·intro i hi
    simp only [rice, hdivI, show ((q : Int)).toNat = q by omega]
    rcases Nat.lt_or_ge i q with hiq | hiq
    ·rw [List.getElem_append_left (by simpa using hiq), o1 i hiq]
     simp
    ·rw [List.getElem_append_right (by simpa using hiq)]
     simp only [List.length_replicate]
     rcases Nat.eq_zero_or_pos (i - q) with h0 | h0
     ·have : i = q := by omega
      subst this
      simp only [Nat.sub_self, List.getElem_cons_zero]
      exact o2'
     ·obtain ⟨j, hj⟩ : ∃ j, i - q = j + 1 := ⟨i - q - 1, by omega⟩
      simp only [hj, List.getElem_cons_succ, lowb, List.getElem_map, List.getElem_range]
      have hjp : j < p := by omega
      have hbn := bt_numS d (a + q + 1) p j hjp
      rw [show a + i = a + q + 1 + j by omega, hbn, hlow]
      congr 1
      have e : ((q * 2 ^ p + low : Nat) : Int) / 2 ^ (p - 1 - j) = (q : Int) * 2 ^ (j + 1) + (low : Int) / 2 ^ (p - 1 - j) := by
       have e1 : ((q * 2 ^ p + low : Nat) : Int) = (low : Int) + ((q : Int) * 2 ^ (j + 1)) * 2 ^ (p - 1 - j) := by
        have : (2 : Int) ^ p = 2 ^ (j + 1) * 2 ^ (p - 1 - j) := by rw [← Int.pow_add]; congr 1; omega
        rw [Int.natCast_add, Int.natCast_mul, show ((2 ^ p : Nat) : Int) = (2 : Int) ^ p by simp, this, Int.mul_assoc]
        omega
       have hpos : (2 : Int) ^ (p - 1 - j) ≠ 0 := by have : (0 : Int) < 2 ^ (p - 1 - j) := Int.pow_pos (by omega); omega
       rw [e1, Int.add_mul_ediv_right _ _ hpos]
       omega
      have e2 : (q : Int) * 2 ^ (j + 1) = 2 * ((q : Int) * 2 ^ j) := by rw [Int.pow_succ, ← Int.mul_assoc, Int.mul_comm]
      rw [e, e2]
      have e3 : (2 * ((q : Int) * 2 ^ j) + (low : Int) / 2 ^ (p - 1 - j)) % 2 = ((low : Int) / 2 ^ (p - 1 - j)) % 2 := by omega
      rw [e3]
theorem enc_dec (d : List Int) (n p : Nat) (hn : n ≤ 1600000) (hp : p ≤ 32) : ∀ (c a : Nat) (s : Int) (out res : List Int), 0 ≤ s → s ≤ 18446744073709551615 → a ≤ n → decS d n p c a s out = (res, 0) → ∃ (rest : List Int) (B : List Bool), res = out ++ rest ∧ rest.length = c ∧ chain s rest ∧ U64 rest ∧ encS p a s rest = some B ∧ (∀ i (h : i < B.length), bt d (a + i) = B[i]) ∧ a + B.length ≤ n ∧ n < a + B.length + 8 ∧ numS d (a + B.length) (n - (a + B.length)) = 0
 | 0, a, s, out, res, hs, hs2, ha, h => by
  rw [decS] at h
  split at h
  ·simp at h
  ·rename_i h1
   split at h
   ·rename_i h2
    simp only [Prod.mk.injEq, and_true] at h
    subst h
    exact ⟨[], [], by simp, rfl, trivial, fun x hx => absurd hx (by simp), rfl, fun i h => by simp at h, by simpa using ha, by simp; omega, by simpa using h2⟩
   ·simp at h
 | c + 1, a, s, out, res, hs, hs2, ha, h => by
  rw [decS] at h
  split at h
  ·rename_i h0
   obtain ⟨v, hR, hq, hle, hv, hbits⟩ := RRS_ok hp h0
   rw [hR] at h
   simp only at h
   split at h
   ·simp at h
   ·rename_i h1
    have hx : IntKind.u64.wrap (s + (v : Int)) = s + (v : Int) := by
     rcases Int.lt_or_le 18446744073709551615 (s + (v : Int)) with hbig | hsm
     ·exfalso
      have e : IntKind.u64.wrap (s + (v : Int)) = s + (v : Int) - 18446744073709551616 := by
       simp [IntKind.wrap, IntKind.signed, IntKind.bits]
       omega
      rw [e] at h1
      omega
     ·exact wu _ (by omega)
    have hxr := wu_range (s + (v : Int))
    rw [hx] at h hxr
    obtain ⟨rest, B, rfl, h2, h3, h4, h5, h6, h7, h8, h9⟩ := enc_dec d n p hn hp c _ _ _ _ (by omega) (by omega) hle h
    have hrl := rice_length (v : Int) p
    have hsub : s + (v : Int) - s = (v : Int) := by omega
    refine ⟨(s + (v : Int)) :: rest, rice (v : Int) p ++ B, by simp, by simp [h2], ⟨by omega, h3⟩, ?_, ?_, ?_, ?_, ?_, ?_⟩
    ·intro x hx'
     rcases List.mem_cons.1 hx' with rfl | hx'
     ·omega
     ·exact h4 x hx'
    ·rw [encS, hsub, if_neg (by omega)]
     rw [hrl, show a + (((v : Int) / 2 ^ p).toNat + 1 + p) = a + ((v : Int) / 2 ^ p).toNat + 1 + p by omega] at h5
     rw [h5]
     rfl
    ·intro i hi
     rcases Nat.lt_or_ge i (rice (v : Int) p).length with hir | hir
     ·rw [List.getElem_append_left hir]
      exact hbits i hir
     ·rw [List.getElem_append_right hir]
      have := h6 (i - (rice (v : Int) p).length) (by rw [List.length_append] at hi; omega)
      rwa [show a + (rice (v : Int) p).length + (i - (rice (v : Int) p).length) = a + i by omega] at this
    ·rw [List.length_append]; omega
    ·rw [List.length_append]; omega
    ·rw [List.length_append, ← Nat.add_assoc]; exact h9
  ·rename_i h0
   simp only [Prod.mk.injEq] at h
   exact absurd h.2 h0
theorem chain_asc : ∀ (l : List Int) (a : Int), chain a l → Asc l
 | [], a, _ => fun i h => by simp at h
 | [x], a, _ => fun i h => by simp at h
 | x :: y :: l, a, h => by
  obtain ⟨h1, h2, h3⟩ := h
  have ih := chain_asc (y :: l) x ⟨h2, h3⟩
  intro i hi
  cases i with
  | zero => exact h2
  | succ i => exact ih i (by simpa using hi)
theorem enc_back {f : Tapi_Filter} {p : Nat} {l : List Int} (hb : Byt f.2) (hp : p ≤ 32) (hd : DR f (p : Int) = (l, 0)) : Lgolomb_Encode l (p : Int) = some (f, 0) := by
 obtain ⟨c, d⟩ := f
 simp only at hb
 rw [DR] at hd
 simp only at hd
 split at hd
 ·simp at hd
 ·split at hd
  ·simp at hd
  ·rename_i h1 h2
   rw [show ((p : Int)).toNat = p by omega] at hd
   obtain ⟨rest, B, g1, g2, g3, g4, g5, g6, g7, g8, g9⟩ := enc_dec d (8 * d.length) p (by omega) hp c.toNat 0 0 [] l (by omega) (by omega) (by omega) hd
   simp only [List.nil_append] at g1
   subst g1
   rw [Nat.zero_add] at g7 g8 g9
   have hasc := chain_asc l 0 g3
   have hl : l.length ≤ 4096 := by omega
   obtain ⟨r, e1, e2⟩ := encode_eq l (p : Int) g4 (by omega)
   have hvb : VB d B.length := by
    refine ⟨hb, by omega, fun i hi => ?_⟩
    rcases Nat.lt_or_ge i (8 * d.length) with h | h
    ·have := numS_zero_inv d B.length _ g9 (i - B.length) (by omega)
     rwa [show B.length + (i - B.length) = i by omega] at this
    ·exact (VB_full hb).rest i h
   have hbl : bl d B.length = B := by
    apply List.ext_getElem (by simp [bl_length])
    intro i h1 h2
    have := g6 i h2
    rw [Nat.zero_add] at this
    simp [bl, this]
   have : ER l (p : Int) ((c, d), 0) := by
    refine .inr (.inr (.inr ⟨hl, by omega, by omega, hasc, ?_⟩))
    rw [show ((p : Int)).toNat = p by omega, g5]
    refine ⟨(d, (B.length : Int)), ?_, by simp, by simpa using hvb, by simpa [show bl ([] : List Int) 0 = [] from rfl] using hbl⟩
    simp only
    rw [show (l.length : Int) = c by omega]
   rw [e1, ER_unique e2 this]
end Go.Lc
end
section
/- Laws 19: Back, Members, Any. -/
namespace Go.Lc
open Go.RowKit
open Go.Av
set_option linter.unusedVariables false
set_option linter.unusedSimpArgs false
set_option maxRecDepth 100000

theorem encS_len (p : Nat) : ∀ (l : List Int) (n : Nat) (s : Int) (B : List Bool), n ≤ 1600000 → encS p n s l = some B → n + B.length ≤ 1600000
 | [], n, s, B, hn, h => by
  simp only [encS, Option.some.injEq] at h
  subst h
  simpa using hn
 | v :: l, n, s, B, hn, h => by
  rw [encS] at h
  split at h
  ·cases h
  ·rename_i hl
   obtain ⟨B2, h2, rfl⟩ := Option.map_eq_some_iff.1 h
   have := encS_len p l _ v B2 (by omega) h2
   rw [List.length_append, rice_length]
   omega
theorem DR_err (f : Tapi_Filter) (p : Int) (h : (DR f p).2 ≠ 0) : (DR f p).1 = [] := by
 have key : ∀ (c a : Nat) (s : Int) (out : List Int), (decS f.2 (8 * f.2.length) p.toNat c a s out).2 ≠ 0 → (decS f.2 (8 * f.2.length) p.toNat c a s out).1 = [] := by
  intro c
  induction c with
  | zero =>
   intro a s out h
   rw [decS] at h ⊢
   split
   ·rfl
   ·rename_i h1
    rw [if_neg h1] at h
    split
    ·rename_i h2
     rw [if_pos h2] at h
     exact absurd rfl h
    ·rfl
  | succ c ih =>
   intro a s out h
   rw [decS] at h ⊢
   split
   ·rename_i h1
    rw [if_pos h1] at h
    split
    ·rfl
    ·rename_i h2
     rw [if_neg h2] at h
     exact ih _ _ _ h
   ·rfl
 unfold DR at h ⊢
 split
 ·rfl
 ·rename_i h1
  rw [if_neg h1] at h
  split
  ·rfl
  ·rename_i h2
   rw [if_neg h2] at h
   exact key _ _ _ _ h

/-! Back -/
def cumS (s : Int) : List Int → List Int
 | [] => []
 | v :: l => (s + v % 500) :: cumS (s + v % 500) l
def lastS (s : Int) : List Int → Int
 | [] => s
 | v :: l => lastS (s + v % 500) l
theorem cumS_snoc : ∀ (l : List Int) (s v : Int), cumS s (l ++ [v]) = cumS s l ++ [lastS s l + v % 500]
 | [], s, v => rfl
 | w :: l, s, v => by
  simp only [List.cons_append, cumS, lastS]
  rw [cumS_snoc l]
theorem cumS_length : ∀ (l : List Int) (s : Int), (cumS s l).length = l.length
 | [], s => rfl
 | w :: l, s => by simp [cumS, cumS_length l]
theorem lastS_snoc : ∀ (l : List Int) (s v : Int), lastS s (l ++ [v]) = lastS s l + v % 500
 | [], s, v => rfl
 | w :: l, s, v => by
  simp only [List.cons_append, lastS]
  rw [lastS_snoc l]
theorem lastS_range : ∀ (l : List Int) (s : Int), s ≤ lastS s l ∧ lastS s l ≤ s + 499 * l.length
 | [], s => by simp [lastS]
 | w :: l, s => by
  have := lastS_range l (s + w % 500)
  simp only [lastS, List.length_cons]
  omega
theorem cumS_chain : ∀ (l : List Int) (s : Int), chain s (cumS s l)
 | [], s => trivial
 | w :: l, s => ⟨by omega, cumS_chain l _⟩
theorem cumS_range : ∀ (l : List Int) (s : Int), ∀ x ∈ cumS s l, s ≤ x ∧ x ≤ s + 499 * l.length
 | [], s => by intro x hx; cases hx
 | w :: l, s => by
  intro x hx
  simp only [cumS, List.mem_cons] at hx
  rcases hx with rfl | hx
  ·simp only [List.length_cons]; omega
  ·have := cumS_range l _ x hx
   simp only [List.length_cons]
   omega
theorem cumS_enc (p : Nat) (hp : p ≤ 32) : ∀ (l : List Int) (n : Nat) (s : Int), n + l.length * 600 ≤ 1600000 → ∃ B, encS p n s (cumS s l) = some B
 | [], n, s, h => ⟨[], rfl⟩
 | w :: l, n, s, h => by
  simp only [List.length_cons] at h
  have e : s + w % 500 - s = w % 500 := by omega
  have hd := div_range (v := w % 500) (by omega) p
  obtain ⟨B, hB⟩ := cumS_enc p hp l (n + ((w % 500) / 2 ^ p).toNat + 1 + p) (s + w % 500) (by omega)
  refine ⟨rice (w % 500) p ++ B, ?_⟩
  rw [cumS, encS, e, if_neg (by omega), hB]
  rfl
theorem golombBack (l : List Int) (f : Tapi_Filter) (c : Int) (hl : ∀ x ∈ l, 0 ≤ x ∧ x ≤ 65535) (hb : ∀ b ∈ f.2, 0 ≤ b ∧ b ≤ 255) (hc : 0 ≤ c ∧ c ≤ 255) : Llaw19_GolombBack l f c = some true := by
 rw [Llaw19_GolombBack, sane_eq, bind_some', if_neg (by simp)]
 by_cases h : 40 < (l.length : Int) ∨ 400 < (f.2.length : Int)
 ·rw [if_pos h]
 ·rw [if_neg h]
  obtain ⟨k, hk, hk2⟩ : ∃ k : Nat, IntKind.i64.wrap (c.tmod 20) = (k : Int) ∧ k ≤ 19 := by
   refine ⟨(c % 20).toNat, ?_, by omega⟩
   rw [Int.tmod_eq_emod_of_nonneg hc.1, wi _ (by omega)]
   omega
  obtain ⟨r, h1, rfl⟩ := runLoop_inv (step := Llaw19_GolombBack_s1 l c f) (fun q s => ∃ i : Nat, s = ((i : Int), cumS 0 (l.take i)) ∧ i ≤ l.length ∧ q = l.length - i) (fun r => r = true) (by
   rintro q s ⟨i, rfl, hi, rfl⟩
   by_cases hil : i < l.length
   ·refine .inl ⟨l.length - (i + 1), (((i + 1 : Nat) : Int), cumS 0 (l.take (i + 1))), by omega, ?_, i + 1, rfl, by omega, rfl⟩
    have hx := hl _ (List.getElem_mem hil)
    have hlen : (cumS 0 (l.take i)).length = i := by rw [cumS_length]; simp; omega
    have hls := lastS_range (l.take i) 0
    simp only [List.length_take] at hls
    have hm : (l[i]).tmod 500 = l[i] % 500 := Int.tmod_eq_emod_of_nonneg hx.1
    have hst : Llaw19_GolombBack_s1 l c f ((i : Int), cumS 0 (l.take i)) = Llaw19_GolombBack_k2 (cumS 0 (l.take i)) (i : Int) (lastS 0 (l.take i) + l[i] % 500) := by
     simp only [Llaw19_GolombBack_s1, if_pos (show (i : Int) < (l.length : Int) by omega)]
     rw [idx_bind hil, hm, wu (l[i] % 500) (by omega)]
     rcases Nat.eq_zero_or_pos i with h0 | h0
     ·subst h0
      rw [if_neg (by omega)]
      simp [lastS]
     ·obtain ⟨j, rfl⟩ : ∃ j, i = j + 1 := ⟨i - 1, by omega⟩
      have hj : j < l.length := by omega
      have hje : cumS 0 (l.take (j + 1)) = cumS 0 (l.take j) ++ [lastS 0 (l.take (j + 1))] := by rw [takeS _ _ hj, cumS_snoc, lastS_snoc]
      have hlj : (cumS 0 (l.take j)).length = j := by rw [cumS_length]; simp; omega
      rw [if_pos (by omega), wP (by omega), hje, inA_bind (by simp [hlj]), get_bind (by simp [hlj]), List.getElem_append_right (by omega)]
      simp only [hlj, Nat.sub_self, List.getElem_cons_zero]
      rw [wu _ (by omega), Int.add_comm]
    rw [hst, Llaw19_GolombBack_k2, chk_bind (by omega), wS (by omega), takeS _ _ hil, cumS_snoc]
   ·refine .inr ⟨true, ?_, rfl⟩
    have e : i = l.length := by omega
    subst e
    simp only [Llaw19_GolombBack_s1, if_neg (show ¬ (l.length : Int) < (l.length : Int) by omega), List.take_length]
    have hcl := cumS_length l 0
    have hcr := cumS_range l 0
    have hu : U64 (cumS 0 l) := fun x hx => by have := hcr x hx; omega
    have ha := chain_asc _ 0 (cumS_chain l 0)
    obtain ⟨B, hB⟩ := cumS_enc k (by omega) l 0 0 (by omega)
    obtain ⟨r, e1, e2⟩ := encode_eq (cumS 0 l) (k : Int) hu (by omega)
    have hr : ∃ y, r = ((((cumS 0 l).length : Int), y.1), 0) ∧ Wr [] 0 B y := by
     rcases e2 with ⟨a1, _⟩ | ⟨_, a2, _⟩ | ⟨_, _, _, a4, _⟩ | ⟨_, _, _, _, a5⟩
     ·omega
     ·omega
     ·exact absurd ha a4
     ·rw [show ((k : Int)).toNat = k by omega, hB] at a5
      exact a5
    obtain ⟨y, rfl, hw⟩ := hr
    have hdec := back_enc (by omega) (by omega) hu ha hB (by have := encS_len k _ 0 0 B (by omega) hB; omega) hw
    rw [Llaw19_GolombBack_k1, hk, e1, bind_some', decode_eq _ _ hw.2.1.byt, hdec, bind_some', if_neg (by simp), same_list _ (by omega)]
    simp only [bind_some', Bool.not_true]
    rw [if_neg (by simp), decode_eq f _ hb, bind_some']
    by_cases h0 : (DR f (k : Int)).2 = 0
    ·have hD : DR f (k : Int) = ((DR f (k : Int)).1, 0) := by rw [← h0]
     rw [if_neg (by simp [h0]), enc_back hb (by omega) hD, bind_some', if_pos rfl, same_refl]
     simp
    ·rw [if_pos h0, DR_err f _ h0]
     simp) _ (0, []) ⟨0, rfl, by omega, rfl⟩
  exact h1

/-! Members and Any -/
end Go.Lc
end
