import Derived.Test.YtmjbklblgpnagaaLcG2
import Derived.Test.YtmjbklblgpnagaaLcG1
section
/- Encodings: what the codec and its reference compute. -/
namespace Go.Lc
open Go.RowKit
open Go.Av
set_option linter.unusedVariables false

/-! numbers, lowest byte first -/
def lowB (n : Int) (k : Nat) : List Int := (List.range k).map fun i => IntKind.u8.wrap (n.fdiv (2 ^ (8 * i)))
@[simp] theorem lowB_len (n : Int) (k : Nat) : (lowB n k).length = k := by simp [lowB]
theorem low_pow {i : Nat} (h : i < 8) : min (IntKind.i64.wrap (8 * (i : Int))).toNat 64 = 8 * i := by
 rw [wi _ (by omega)]
 omega
theorem lowest_eq (n : Int) (k : Nat) (hk : k ≤ 8) : Lcodec_lowest n k = some (lowB n k) := by
 unfold Lcodec_lowest
 rw [chk_bind (by omega)]
 have := runLoop_to (step := Lcodec_lowest_s1 k n) (fun i => ((i : Int), ((List.range i).map fun i => IntKind.u8.wrap (n.fdiv (2 ^ (8 * i)))) ++ List.replicate (k - i) 0)) k (x := some (lowB n k)) (fun i hi => by
  simp only [Lcodec_lowest_s1]
  rw [if_pos (by omega), chk_bind (by rw [wi _ (by omega)]; omega), fill_len _ _ (by omega), inA_bind hi, low_pow (by omega), fill_step (fun i => IntKind.u8.wrap (n.fdiv (2 ^ (8 * i)))) 0 hi, wi_succ hi (by omega)]) (by
  simp only [Lcodec_lowest_s1]
  rw [if_neg (by omega)]
  simp [Lcodec_lowest_k1, lowB])
 simpa using this
theorem extend_eq {a b : List Int} (h : a.length + b.length ≤ 140737488355328) : Lcodec_extend a b = some (a ++ b) := by
 unfold Lcodec_extend
 rw [wi _ (by omega), chk_bind (by omega), chk_bind (by omega), chk_bind (by omega)]
theorem joined_eq {a b : List Int} (h : a.length + b.length ≤ 140737488355328) : Lref01_joined a b = some (a ++ b) := by
 unfold Lref01_joined
 rw [wi _ (by omega), chk_bind (by omega), chk_bind (by omega), chk_bind (by omega)]
section
variable {b : List Int} {n : Int}
theorem u32_eq (h : b.length ≤ 140737488355000) : Lcodec_AppendU32 b n = some (b ++ lowB (IntKind.u64.wrap n) 4) := by
 unfold Lcodec_AppendU32
 have this : Lcodec_lowest (IntKind.u64.wrap n) 4 = some (lowB (IntKind.u64.wrap n) 4) := lowest_eq _ 4 (by omega)
 rw [this, bind_some', extend_eq (by simp; omega)]
 rfl
end
theorem hash_eq {b : List Int} {a : Arr 32} (h : b.length ≤ 140737488355000) : Lcodec_AppendHash b a = some (b ++ a.l) := by
 unfold Lcodec_AppendHash
 rw [extend_eq (by rw [a.hl]; omega)]
 rfl
def pointB (o : Tapi_OutPoint) : List Int := o.1.l ++ lowB (IntKind.u64.wrap o.2) 4
@[simp] theorem pointB_len (o : Tapi_OutPoint) : (pointB o).length = 36 := by simp [pointB, o.1.hl]
theorem point_eq (o : Tapi_OutPoint) : Ltx_Point o = some (pointB o) := by
 unfold Ltx_Point
 rw [hash_eq (by simp), bind_some', u32_eq (by simp [o.1.hl])]
 rfl
end Go.Lc
end
section
/- Rice codes and filters: what is written. -/
namespace Go.Lc
open Go.RowKit
open Go.Av
set_option linter.unusedVariables false
set_option linter.unusedSimpArgs false
set_option maxRecDepth 100000

/-! valid strings -/
theorem mask_byte : ∀ (x : Fin 256) (k : Fin 8), (∀ j : Fin 8, k ≤ j → bb (x.val : Int) j.val = false) → bits .and .u8 (x.val : Int) ((255 : Int).fdiv (2 ^ (min k.val 8))) = 0 := by decide +kernel
theorem nlen (n : Nat) (hn : n ≤ 2000000) : IntKind.i64.wrap ((IntKind.i64.wrap ((n : Int) + 7)).tdiv 8) = (((n + 7) / 8 : Nat) : Int) := by
 rw [wi ((n : Int) + 7) (by omega), show (n : Int) + 7 = ((n + 7 : Nat) : Int) by omega, tdiv8, wI _ (by omega)]
theorem valid_eq {d : List Int} {n : Nat} (h : VB d n) (hn : n ≤ 1600000) : Lbits_Valid (d, (n : Int)) = some true := by
 have hlen := h.len
 simp only [Lbits_Valid, nlen n (by omega), tmod8]
 rw [if_neg (by omega)]
 by_cases h0 : n % 8 = 0
 ·rw [if_pos (by omega), bind_some']
  simp [h0]
 ·have hl : d.length - 1 < d.length := by omega
  have hx := h.byt.get (d.length - 1)
  rw [if_neg (by omega), show IntKind.i64.wrap ((d.length : Int) - 1) = ((d.length - 1 : Nat) : Int) by rw [wi _ (by omega)]; omega, idx_bind hl, chk_bind (by omega), bind_some', show (((n % 8 : Nat) : Int)).toNat = n % 8 by omega]
  obtain ⟨x, hxe⟩ : ∃ x : Fin 256, d.getD (d.length - 1) 0 = (x.val : Int) := ⟨⟨(d.getD (d.length - 1) 0).toNat, by omega⟩, by simp only; omega⟩
  have hg : d[d.length - 1] = (x.val : Int) := by rw [← hxe]; simp [List.getD_eq_getElem?_getD, hl]
  have hm := mask_byte x ⟨n % 8, Nat.mod_lt _ (by omega)⟩ (fun j hj => by
   have := h.rest (8 * (d.length - 1) + j.val) (by have : n % 8 ≤ j.val := hj; omega)
   rw [bt, show (8 * (d.length - 1) + j.val) / 8 = d.length - 1 by omega, show (8 * (d.length - 1) + j.val) % 8 = j.val by omega, hxe] at this
   exact this)
  simp only at hm
  rw [hg, hm]
  simp
theorem and1_byte : ∀ (x : Fin 256) (k : Fin 8), decide (bits .and .u8 ((x.val : Int).fdiv (2 ^ (min (7 - k.val) 8))) 1 = 1) = bb (x.val : Int) k.val := by decide +kernel
theorem and128_byte : ∀ (x : Fin 256) (k : Fin 8), (!decide (bits .and .u8 (x.val : Int) ((128 : Int).fdiv (2 ^ (min k.val 8))) = 0)) = bb (x.val : Int) k.val := by decide +kernel
theorem bit_eq {d : List Int} {i : Nat} {n : Int} (h : Byt d) (hi : i < 8 * d.length) (hs : i ≤ 4000000) : Lbits_bit (d, n) (i : Int) = some (bt d i) := by
 have hl : i / 8 < d.length := by omega
 have hx := h.get (i / 8)
 obtain ⟨x, hxe⟩ : ∃ x : Fin 256, d.getD (i / 8) 0 = (x.val : Int) := ⟨⟨(d.getD (i / 8) 0).toNat, by omega⟩, by simp only; omega⟩
 have hg : d[i / 8] = (x.val : Int) := by rw [← hxe]; simp [List.getD_eq_getElem?_getD, hl]
 simp only [Lbits_bit, tmod8, tdiv8, wI (i / 8) (by omega)]
 rw [idx_bind hl, chk_bind (by omega), show (((i % 8 : Nat) : Int)).toNat = i % 8 by omega, hg, bt, hxe]
 have := and128_byte x ⟨i % 8, Nat.mod_lt _ (by omega)⟩
 simp only at this
 rw [this]
theorem rbit_eq {d : List Int} {i : Nat} {n : Int} (h : Byt d) (hi : i < 8 * d.length) (hs : i ≤ 4000000) : Lref18_bit (d, n) (i : Int) = some (bt d i) := by
 have hl : i / 8 < d.length := by omega
 have hx := h.get (i / 8)
 obtain ⟨x, hxe⟩ : ∃ x : Fin 256, d.getD (i / 8) 0 = (x.val : Int) := ⟨⟨(d.getD (i / 8) 0).toNat, by omega⟩, by simp only; omega⟩
 have hg : d[i / 8] = (x.val : Int) := by rw [← hxe]; simp [List.getD_eq_getElem?_getD, hl]
 have e7 : IntKind.i64.wrap (7 - ((i % 8 : Nat) : Int)) = ((7 - i % 8 : Nat) : Int) := by rw [wi _ (by omega)]; omega
 simp only [Lref18_bit, tmod8, tdiv8, wI (i / 8) (by omega), e7]
 rw [idx_bind hl, chk_bind (by omega), show (((7 - i % 8 : Nat) : Int)).toNat = 7 - i % 8 by omega, hg, bt, hxe]
 have := and1_byte x ⟨i % 8, Nat.mod_lt _ (by omega)⟩
 simp only at this
 rw [this]
theorem rvalid_eq {d : List Int} {n : Nat} (h : VB d n) (hn : n ≤ 1600000) : Lref18_Valid (d, (n : Int)) = some true := by
 have hlen := h.len
 simp only [Lref18_Valid, nlen n (by omega)]
 rw [if_neg (by omega)]
 obtain ⟨r, h1, rfl⟩ := runLoop_inv (step := Lref18_Valid_s1 (d, (n : Int))) (fun m (s : Int) => ∃ i : Nat, s = (i : Int) ∧ n ≤ i ∧ i ≤ 8 * d.length ∧ m = 8 * d.length - i) (fun r => r = true) (by
  rintro m s ⟨i, rfl, h1, h2, rfl⟩
  have e8 : IntKind.i64.wrap (8 * (d.length : Int)) = ((8 * d.length : Nat) : Int) := by rw [wi _ (by omega)]; omega
  by_cases hi : i < 8 * d.length
  ·refine .inl ⟨8 * d.length - (i + 1), ((i + 1 : Nat) : Int), by omega, ?_, i + 1, rfl, by omega, by omega, rfl⟩
   simp only [Lref18_Valid_s1, e8, if_pos (show (i : Int) < ((8 * d.length : Nat) : Int) by omega)]
   rw [rbit_eq h.byt hi (by omega), bind_some', h.rest i h1, if_neg (by simp), wS (by omega)]
  ·refine .inr ⟨true, ?_, rfl⟩
   simp only [Lref18_Valid_s1, e8, if_neg (show ¬ (i : Int) < ((8 * d.length : Nat) : Int) by omega), Lref18_Valid_k1]
   rfl) _ (n : Int) ⟨n, rfl, Nat.le_refl _, by omega, rfl⟩
 exact h1

/-! numbers, bit by bit -/
def Wr (d : List Int) (n : Nat) (B : List Bool) (x : List Int × Int) : Prop := x.2 = ((n + B.length : Nat) : Int) ∧ VB x.1 (n + B.length) ∧ bl x.1 (n + B.length) = bl d n ++ B
theorem Wr.nil {d : List Int} {n : Nat} (h : VB d n) : Wr d n [] (d, (n : Int)) := ⟨rfl, by simpa using h, by simp⟩
theorem Wr.snoc {d d' : List Int} {n m : Nat} {B : List Bool} (b : Bool) (h : Wr d n B (d', (m : Int))) : Wr d n (B ++ [b]) (nd d' m b, ((m + 1 : Nat) : Int)) := by
 obtain ⟨h1, h2, h3⟩ := h
 have e : m = n + B.length := by simp only at h1; omega
 subst e
 obtain ⟨g1, g2⟩ := nd_spec b h2
 simp only at h3
 refine ⟨by simp; omega, by simpa [Nat.add_assoc] using g1, ?_⟩
 rw [show n + (B ++ [b]).length = n + B.length + 1 by simp; omega]
 show bl (nd d' (n + B.length) b) _ = _
 rw [g2, h3, List.append_assoc]
theorem Wr.vb {d d' : List Int} {n m : Nat} {B : List Bool} (h : Wr d n B (d', (m : Int))) : VB d' m ∧ m = n + B.length := by
 obtain ⟨h1, h2, _⟩ := h
 have e : m = n + B.length := by simp only at h1; omega
 subst e
 exact ⟨h2, rfl⟩
theorem and1 {x : Int} (h0 : 0 ≤ x) (h1 : x ≤ 18446744073709551615) : bits .and .u64 x 1 = x % 2 := by
 show IntKind.u64.wrap ((BitVec.ofInt 64 x &&& BitVec.ofInt 64 1).toNat : Int) = _
 rw [BitVec.toNat_and]
 have e1 : (BitVec.ofInt 64 x).toNat = x.toNat := by
  simp [BitVec.toNat_ofInt]
  omega
 have e2 : (BitVec.ofInt 64 1).toNat = 1 := rfl
 rw [e1, e2, Nat.and_one_is_mod, wu _ (by omega)]
 omega
def lowb (v : Int) (p : Nat) : List Bool := (List.range p).map fun i => decide ((v / 2 ^ (p - 1 - i)) % 2 = 1)
def rice (v : Int) (p : Nat) : List Bool := List.replicate (v / 2 ^ p).toNat true ++ (false :: lowb v p)
theorem lowb_length (v : Int) (p : Nat) : (lowb v p).length = p := by simp [lowb]
theorem rice_length (v : Int) (p : Nat) : (rice v p).length = (v / 2 ^ p).toNat + 1 + p := by simp [rice, lowb_length]; omega
theorem fd {v : Int} (h : 0 ≤ v) (k : Nat) : v.fdiv (2 ^ k) = v / 2 ^ k := Int.fdiv_eq_ediv_of_nonneg _ (by have : (0 : Int) < 2 ^ k := Int.pow_pos (by omega); omega)
theorem div_range {v : Int} (h0 : 0 ≤ v) (k : Nat) : 0 ≤ v / 2 ^ k ∧ v / 2 ^ k ≤ v := by
 have : (0 : Int) < 2 ^ k := Int.pow_pos (by omega)
 exact ⟨Int.ediv_nonneg h0 (by omega), Int.ediv_le_self _ h0⟩
theorem lowb_take {v : Int} {p i : Nat} (h : i < p) : (lowb v p).take (i + 1) = (lowb v p).take i ++ [decide ((v / 2 ^ (p - 1 - i)) % 2 = 1)] := by
 rw [List.take_add_one]
 congr 1
 simp [lowb, h]
theorem num_eq {d0 : List Int} {n0 : Nat} {B : List Bool} {d : List Int} {n : Nat} {v : Int} {p : Nat} (h : Wr d0 n0 B (d, (n : Int))) (hn : n + p ≤ 1700000) (hp : p ≤ 64) (h0 : 0 ≤ v) (h1 : v ≤ 18446744073709551615) : ∃ x, Lbits_writer_number (d, (n : Int)) v (p : Int) = some x ∧ Wr d0 n0 (B ++ lowb v p) x := by
 rw [Lbits_writer_number]
 refine runLoop_inv (step := Lbits_writer_number_s1 (p : Int) v) (fun m s => ∃ (i : Nat) (d' : List Int), s = ((i : Int), ((n + i : Nat) : Int), d') ∧ i ≤ p ∧ Wr d0 n0 (B ++ (lowb v p).take i) (d', ((n + i : Nat) : Int)) ∧ m = p - i) _ ?_ _ _ ⟨0, d, rfl, by omega, by simpa using h, rfl⟩
 rintro m s ⟨i, d', rfl, hi, hw, rfl⟩
 by_cases hip : i < p
 ·refine .inl ⟨p - (i + 1), (((i + 1 : Nat) : Int), ((n + (i + 1) : Nat) : Int), nd d' (n + i) (decide ((v / 2 ^ (p - 1 - i)) % 2 = 1))), by omega, ?_, i + 1, _, rfl, by omega, ?_, rfl⟩
  ·have e1 : IntKind.i64.wrap ((IntKind.i64.wrap ((p : Int) - 1)) - (i : Int)) = ((p - 1 - i : Nat) : Int) := by rw [wi ((p : Int) - 1) (by omega), wi _ (by omega)]; omega
   simp only [Lbits_writer_number_s1, if_pos (show (i : Int) < (p : Int) by omega), e1]
   rw [chk_bind (by omega), show min (((p - 1 - i : Nat) : Int)).toNat 64 = p - 1 - i by omega, fd h0, and1 (div_range h0 _).1 (by have := (div_range h0 (p - 1 - i)).2; omega), put_eq _ hw.vb.1 (by omega), bind_some', wS (by omega)]
   rfl
  ·rw [lowb_take hip, ← List.append_assoc]
   exact hw.snoc _
 ·refine .inr ⟨(d', ((n + i : Nat) : Int)), ?_, ?_⟩
  ·simp only [Lbits_writer_number_s1, if_neg (show ¬ (i : Int) < (p : Int) by omega)]
  ·rwa [List.take_of_length_le (by rw [lowb_length]; omega)] at hw
theorem rnum_eq {d0 : List Int} {n0 : Nat} {B : List Bool} {d : List Int} {n : Nat} {v : Int} {p : Nat} (h : Wr d0 n0 B (d, (n : Int))) (hn : n + p ≤ 1700000) (hp : p ≤ 64) (h0 : 0 ≤ v) (h1 : v ≤ 18446744073709551615) : ∃ x, runLoop (Lref18_AppendRice_s2 v) (IntKind.i64.wrap ((p : Int) - 1), (n : Int), d) = some (x, 0) ∧ Wr d0 n0 (B ++ lowb v p) x := by
 obtain ⟨r, g1, x, rfl, g2⟩ := runLoop_inv (step := Lref18_AppendRice_s2 v) (fun m s => ∃ (i : Nat) (d' : List Int), s = ((p : Int) - 1 - (i : Int), ((n + i : Nat) : Int), d') ∧ i ≤ p ∧ Wr d0 n0 (B ++ (lowb v p).take i) (d', ((n + i : Nat) : Int)) ∧ m = p - i) (fun r => ∃ x, r = (x, (0 : Int)) ∧ Wr d0 n0 (B ++ lowb v p) x) (by
  rintro m s ⟨i, d', rfl, hi, hw, rfl⟩
  by_cases hip : i < p
  ·refine .inl ⟨p - (i + 1), ((p : Int) - 1 - ((i + 1 : Nat) : Int), ((n + (i + 1) : Nat) : Int), nd d' (n + i) (decide ((v / 2 ^ (p - 1 - i)) % 2 = 1))), by omega, ?_, i + 1, _, rfl, by omega, ?_, rfl⟩
   ·simp only [Lref18_AppendRice_s2, if_pos (show (0 : Int) ≤ (p : Int) - 1 - (i : Int) by omega)]
    rw [chk_bind (by omega), show min ((p : Int) - 1 - (i : Int)).toNat 64 = p - 1 - i by omega, fd h0, and1 (div_range h0 _).1 (by have := (div_range h0 (p - 1 - i)).2; omega), rput_eq _ hw.vb.1 (by omega), bind_some', wi _ (by omega)]
    simp only [show (p : Int) - 1 - (i : Int) - 1 = (p : Int) - 1 - ((i + 1 : Nat) : Int) by omega]
    rfl
   ·rw [lowb_take hip, ← List.append_assoc]
    exact hw.snoc _
  ·refine .inr ⟨((d', ((n + i : Nat) : Int)), 0), ?_, _, rfl, ?_⟩
   ·simp only [Lref18_AppendRice_s2, if_neg (show ¬ (0 : Int) ≤ (p : Int) - 1 - (i : Int) by omega), Lref18_AppendRice_k2]
    rfl
   ·rwa [List.take_of_length_le (by rw [lowb_length]; omega)] at hw) _ (IntKind.i64.wrap ((p : Int) - 1), (n : Int), d) ⟨0, d, by rw [wi _ (by omega)]; simp, by omega, by simpa using h, rfl⟩
 exact ⟨x, g1, g2⟩

/-! Rice codes -/
def ARS (d : List Int) (n : Nat) (v : Int) (p : Nat) (r : (List Int × Int) × Int) : Prop :=
 if 65536 < v / 2 ^ p ∨ 1600000 < n + (v / 2 ^ p).toNat + 1 + p then r = (([], 0), 4) else ∃ x, r = (x, 0) ∧ Wr d n (rice v p) x
theorem rep_snoc {α : Type} (i : Nat) (a : α) : List.replicate (i + 1) a = List.replicate i a ++ [a] := by rw [List.replicate_succ']
theorem begin_eq (d : List Int) (n : Int) (h : d.length ≤ 140737488355328) : Lbits_begin (d, n) = some (d, n) := by
 simp only [Lbits_begin]
 rw [chk_bind (by omega)]
 simp
theorem ar_eq {d : List Int} {n : Nat} {v : Int} {p : Nat} (h : VB d n) (hn : n ≤ 1600000) (hp : p ≤ 32) (h0 : 0 ≤ v) (h1 : v ≤ 18446744073709551615) : ∃ r, Lbits_AppendRice (d, (n : Int)) v (p : Int) = some r ∧ ARS d n v p r := by
 have hlen := h.len
 have hq := div_range h0 p
 have ep : min ((p : Int)).toNat 64 = p := by omega
 rw [Lbits_AppendRice, valid_eq h hn, bind_some', if_neg (by simp), if_neg (by omega), chk_bind (by omega)]
 simp only [ep, fd h0]
 unfold ARS
 generalize hqe : v / 2 ^ p = q at hq
 have hcond : (65536 < q ∨ 1600000 < IntKind.i64.wrap ((IntKind.i64.wrap ((IntKind.i64.wrap ((n : Int) + (IntKind.i64.wrap q))) + 1)) + (p : Int))) ↔ (65536 < q ∨ 1600000 < n + q.toNat + 1 + p) := by
  by_cases hq6 : 65536 < q
  ·simp [hq6]
  ·rw [wi q (by omega), wi ((n : Int) + q) (by omega), wi ((n : Int) + q + 1) (by omega), wi _ (by omega)]
   omega
 by_cases hc : 65536 < q ∨ 1600000 < n + q.toNat + 1 + p
 ·rw [if_pos (hcond.2 hc)]
  simp only [if_pos hc]
  exact ⟨_, rfl, rfl⟩
 ·rw [if_neg (fun h => hc (hcond.1 h)), begin_eq d _ (by omega), bind_some']
  simp only [if_neg hc]
  refine runLoop_inv (step := Lbits_AppendRice_s1 v (p : Int)) (fun m s => ∃ (i : Nat) (d' : List Int), s = ((i : Int), ((n + i : Nat) : Int), d') ∧ i ≤ q.toNat ∧ Wr d n (List.replicate i true) (d', ((n + i : Nat) : Int)) ∧ m = q.toNat - i) _ ?_ _ _ ⟨0, d, rfl, by omega, by simpa using Wr.nil h, rfl⟩
  rintro m s ⟨i, d', rfl, hi, hw, rfl⟩
  by_cases hiq : i < q.toNat
  ·refine .inl ⟨q.toNat - (i + 1), (((i + 1 : Nat) : Int), ((n + (i + 1) : Nat) : Int), nd d' (n + i) true), by omega, ?_, i + 1, _, rfl, by omega, ?_, rfl⟩
   ·simp only [Lbits_AppendRice_s1, ep, fd h0, hqe, if_pos (show (i : Int) < q by omega)]
    rw [put_eq _ hw.vb.1 (by omega), bind_some', wu _ (by omega)]
    rfl
   ·rw [rep_snoc]
    exact hw.snoc _
  ·have e : i = q.toNat := by omega
   subst e
   have hw2 := hw.snoc false
   obtain ⟨x, g1, g2⟩ := num_eq (p := p) hw2 (by omega) (by omega) h0 h1
   refine .inr ⟨(x, 0), ?_, x, rfl, ?_⟩
   ·simp only [Lbits_AppendRice_s1, ep, fd h0, hqe, if_neg (show ¬ ((q.toNat : Nat) : Int) < q by omega), Lbits_AppendRice_k1]
    rw [put_eq _ hw.vb.1 (by omega), bind_some', g1, bind_some']
    rfl
   ·rw [List.append_assoc] at g2
    rw [rice, hqe]
    exact g2
theorem join1_eq (d : List Int) (h : d.length ≤ 140737488355328) : Lref01_Join [d] = some d := by
 rw [Lref01_Join, runLoop_step (s' := (1, d)), runLoop_end (r := d)]
 ·simp [Lref01_Join_s1, Lref01_Join_k1]
 ·simp only [Lref01_Join_s1, List.length_singleton, if_pos (show (0 : Int) < ((1 : Nat) : Int) by omega)]
  rw [show (0 : Int) = ((0 : Nat) : Int) from rfl, idx_bind (by simp)]
  simp only [List.getElem_cons_zero]
  rw [joined_eq (by simpa using h), bind_some']
  rfl
theorem rar_eq {d : List Int} {n : Nat} {v : Int} {p : Nat} (h : VB d n) (hn : n ≤ 1600000) (hp : p ≤ 32) (h0 : 0 ≤ v) (h1 : v ≤ 18446744073709551615) : ∃ r, Lref18_AppendRice (d, (n : Int)) v (p : Int) = some r ∧ ARS d n v p r := by
 have hlen := h.len
 have hq := div_range h0 p
 have ep : min ((p : Int)).toNat 64 = p := by omega
 rw [Lref18_AppendRice, rvalid_eq h hn, bind_some', if_neg (by simp), if_neg (by omega), chk_bind (by omega)]
 simp only [ep, fd h0]
 unfold ARS
 generalize hqe : v / 2 ^ p = q at hq
 by_cases hq6 : 65536 < q
 ·rw [if_pos hq6, bind_some', if_pos (.inl hq6)]
  simp only [if_pos (show 65536 < q ∨ 1600000 < n + q.toNat + 1 + p from .inl hq6)]
  exact ⟨_, rfl, rfl⟩
 ·rw [if_neg hq6, chk_bind (by omega), bind_some', wi q (by omega), wi ((n : Int) + q) (by omega), wi ((n : Int) + q + 1) (by omega), wi _ (by omega)]
  by_cases hc : 65536 < q ∨ 1600000 < n + q.toNat + 1 + p
  ·rw [if_pos (.inr (by simp; omega))]
   simp only [if_pos hc]
   exact ⟨_, rfl, rfl⟩
  ·rw [if_neg (by simp; omega), join1_eq d (by omega), bind_some', chk_bind (by omega)]
   simp only [if_neg hc]
   refine runLoop_inv (step := Lref18_AppendRice_s1 v (p : Int)) (fun m s => ∃ (i : Nat) (d' : List Int), s = (q - (i : Int), ((n + i : Nat) : Int), d') ∧ i ≤ q.toNat ∧ Wr d n (List.replicate i true) (d', ((n + i : Nat) : Int)) ∧ m = q.toNat - i) _ ?_ _ _ ⟨0, d, by simp, by omega, by simpa using Wr.nil h, rfl⟩
   rintro m s ⟨i, d', rfl, hi, hw, rfl⟩
   by_cases hiq : i < q.toNat
   ·refine .inl ⟨q.toNat - (i + 1), (q - ((i + 1 : Nat) : Int), ((n + (i + 1) : Nat) : Int), nd d' (n + i) true), by omega, ?_, i + 1, _, rfl, by omega, ?_, rfl⟩
    ·simp only [Lref18_AppendRice_s1, if_pos (show (0 : Int) < q - (i : Int) by omega)]
     rw [rput_eq _ hw.vb.1 (by omega), bind_some', wu _ (by omega), show q - (i : Int) - 1 = q - ((i + 1 : Nat) : Int) by omega]
     rfl
    ·rw [rep_snoc]
     exact hw.snoc _
   ·have e : i = q.toNat := by omega
    subst e
    have hw2 := hw.snoc false
    obtain ⟨x, g1, g2⟩ := rnum_eq (p := p) hw2 (by omega) (by omega) h0 h1
    refine .inr ⟨(x, 0), ?_, x, rfl, ?_⟩
    ·simp only [Lref18_AppendRice_s1, if_neg (show ¬ (0 : Int) < q - ((q.toNat : Nat) : Int) by omega), Lref18_AppendRice_k1]
     rw [rput_eq _ hw.vb.1 (by omega), bind_some', g1]
     rfl
    ·rw [List.append_assoc] at g2
     rw [rice, hqe]
     exact g2
end Go.Lc
end
section
/- Filters: the program's Encode is the reference's. -/
namespace Go.Lc
open Go.RowKit
open Go.Av
set_option linter.unusedVariables false
set_option linter.unusedSimpArgs false
set_option maxRecDepth 100000

def U64 (l : List Int) : Prop := ∀ x ∈ l, 0 ≤ x ∧ x ≤ 18446744073709551615
def Asc (l : List Int) : Prop := ∀ i (h : i + 1 < l.length), l[i] ≤ l[i + 1]
theorem issorted_eq (l : List Int) (hs : l.length < 4611686018427387904) : ∃ b, Lslices_IsSorted_of__uint64_uint64 l = some b ∧ (b = true ↔ Asc l) := by
 rw [Lslices_IsSorted_of__uint64_uint64]
 rcases Nat.eq_zero_or_pos l.length with h0 | h0
 ·refine ⟨true, runLoop_end ?_, by simp; intro i h; omega⟩
  rw [h0]
  simp only [Lslices_IsSorted_of__uint64_uint64_s1]
  rw [if_neg (by decide), Lslices_IsSorted_of__uint64_uint64_k1]
  rfl
 ·rw [wi _ (by omega), show (l.length : Int) - 1 = ((l.length - 1 : Nat) : Int) by omega]
  refine runLoop_inv (step := Lslices_IsSorted_of__uint64_uint64_s1 l) (fun m s => ∃ i : Nat, s = (i : Int) ∧ i < l.length ∧ (∀ j (h : j + 1 < l.length), i ≤ j → l[j] ≤ l[j + 1]) ∧ m = i) _ ?_ _ _ ⟨l.length - 1, rfl, by omega, fun j h hj => by omega, rfl⟩
  rintro m s ⟨i, rfl, hi, hj, hm⟩
  by_cases hi0 : 0 < i
  ·obtain ⟨i, rfl⟩ : ∃ k, i = k + 1 := ⟨i - 1, by omega⟩
   have h1 : i < l.length := by omega
   by_cases hl : l[i + 1] < l[i]
   ·refine .inr ⟨false, ?_, by simp; exact fun h => by have := h i hi; omega⟩
    simp only [Lslices_IsSorted_of__uint64_uint64_s1, if_pos (show (0 : Int) < ((i + 1 : Nat) : Int) by omega), idx_bind hi, wP (show i < 9223372036854775807 by omega), idx_bind h1, less_eq, sB]
    rw [if_pos (by simp [Go.Sort.ltInt, hl])]
   ·refine .inl ⟨i, (i : Int), by omega, ?_, i, rfl, h1, ?_, rfl⟩
    ·simp only [Lslices_IsSorted_of__uint64_uint64_s1, if_pos (show (0 : Int) < ((i + 1 : Nat) : Int) by omega), idx_bind hi, wP (show i < 9223372036854775807 by omega), idx_bind h1, less_eq, sB]
     rw [if_neg (by simp [Go.Sort.ltInt]; omega)]
    ·intro j h hij
     by_cases e : j = i
     ·subst e; omega
     ·exact hj j h (by omega)
  ·refine .inr ⟨true, ?_, by simp; exact fun j h => hj j h (by omega)⟩
   simp only [Lslices_IsSorted_of__uint64_uint64_s1, if_neg (show ¬ (0 : Int) < (i : Int) by omega), Lslices_IsSorted_of__uint64_uint64_k1]
   rfl
def encS (p : Nat) : Nat → Int → List Int → Option (List Bool)
 | _, _, [] => some []
 | n, a, v :: l => if 65536 < (v - a) / 2 ^ p ∨ 1600000 < n + ((v - a) / 2 ^ p).toNat + 1 + p then none else (encS p (n + ((v - a) / 2 ^ p).toNat + 1 + p) v l).map (rice (v - a) p ++ ·)
def chain (a : Int) : List Int → Prop
 | [] => True
 | v :: l => a ≤ v ∧ chain v l
def ESR (len : Nat) (d0 : List Int) (n : Nat) (x : Option (List Bool)) (r : Tapi_Filter × Int) : Prop := match x with
 | none => r = ((0, []), 4)
 | some B => ∃ y, r = (((len : Int), y.1), 0) ∧ Wr d0 n B y
theorem enc_loop {AR : Tapi_Bits → Int → Int → Option (Tapi_Bits × Int)} (hAR : ∀ (d : List Int) (n : Nat) (v : Int) (p : Nat), VB d n → n ≤ 1600000 → p ≤ 32 → 0 ≤ v → v ≤ 18446744073709551615 → ∃ r, AR (d, (n : Int)) v (p : Int) = some r ∧ ARS d n v p r)
  {step : Int × Int × List Int × Int → Option ((Int × Int × List Int × Int) ⊕ (Tapi_Filter × Int))} {l : List Int} {p : Nat} (hp : p ≤ 32) (hl : l.length ≤ 4096) (hu : U64 l)
  (hst : ∀ a i d n, step (a, i, d, n) = (if i < (l.length : Int) then (idx l i).bind fun x => (AR (d, n) (IntKind.u64.wrap (x - a)) (p : Int)).bind fun y => (if ¬ (y.2 = 0) then some (.inr (((0, ([] : (List Int))), y.2))) else some (.inl (x, IntKind.i64.wrap (i + 1), y.1.1, y.1.2))) else some (.inr (((l.length : Int), d), 0)))) :
  ∀ (rest : List Int) (i : Nat) (a : Int) (d : List Int) (n : Nat), l.drop i = rest → VB d n → n ≤ 1600000 → 0 ≤ a → chain a rest → ∃ r, runLoop step (a, (i : Int), d, (n : Int)) = some r ∧ ESR l.length d n (encS p n a rest) r := by
 intro rest
 induction rest with
 | nil =>
  intro i a d n hr hv hn ha hc
  have hi : l.length ≤ i := List.drop_eq_nil_iff.1 hr
  refine ⟨(((l.length : Int), d), 0), runLoop_end ?_, (d, (n : Int)), rfl, Wr.nil hv⟩
  rw [hst, if_neg (by omega)]
 | cons v rest ih =>
  intro i a d n hr hv hn ha hc
  have hi : i < l.length := by
   rcases Nat.lt_or_ge i l.length with h | h
   ·exact h
   ·rw [List.drop_eq_nil_of_le h] at hr; cases hr
  have hx : l[i] = v ∧ l.drop (i + 1) = rest := by
   rw [List.drop_eq_getElem_cons hi] at hr
   injection hr with h1 h2
   exact ⟨h1, h2⟩
  obtain ⟨hx, hr2⟩ := hx
  have hvu := hu v (hx ▸ List.getElem_mem hi)
  obtain ⟨hav, hc⟩ := hc
  obtain ⟨r, h1, h2⟩ := hAR d n (v - a) p hv hn hp (by omega) (by omega)
  have hs : step (a, (i : Int), d, (n : Int)) = (if ¬ (r.2 = 0) then some (.inr (((0, ([] : (List Int))), r.2))) else some (.inl (v, ((i + 1 : Nat) : Int), r.1.1, r.1.2))) := by
   rw [hst, if_pos (by omega), idx_bind hi, hx, wu _ (by omega), h1, bind_some', wS (by omega)]
  unfold ARS at h2
  rw [encS]
  split at h2
  ·rename_i hc2
   subst h2
   rw [if_pos hc2]
   exact ⟨_, runLoop_end (by rw [hs, if_pos (by decide)]), rfl⟩
  ·rename_i hc2
   obtain ⟨y, rfl, hw⟩ := h2
   rw [if_neg hc2]
   rw [if_neg (by simp)] at hs
   have e : y = (y.1, ((n + (rice (v - a) p).length : Nat) : Int)) := by rw [← hw.1]
   have hv2 := hw.2.1
   have hlr := rice_length (v - a) p
   obtain ⟨r, h3, h4⟩ := ih (i + 1) v y.1 (n + (rice (v - a) p).length) hr2 hv2 (by omega) (by omega) hc
   simp only at hs
   rw [hw.1] at hs
   refine ⟨r, (runLoop_step hs).trans h3, ?_⟩
   rw [hlr, show n + (((v - a) / 2 ^ p).toNat + 1 + p) = n + ((v - a) / 2 ^ p).toNat + 1 + p by omega] at h4
   cases hB : encS p (n + ((v - a) / 2 ^ p).toNat + 1 + p) v rest with
   | none => rw [hB] at h4; exact h4
   | some B =>
    rw [hB] at h4
    obtain ⟨z, rfl, g1, g2, g3⟩ := h4
    refine ⟨z, rfl, ?_, ?_, ?_⟩
    ·rw [g1]; simp; omega
    ·rw [show n + (rice (v - a) p ++ B).length = n + ((v - a) / 2 ^ p).toNat + 1 + p + B.length by simp; omega]; exact g2
    ·rw [show n + (rice (v - a) p ++ B).length = n + ((v - a) / 2 ^ p).toNat + 1 + p + B.length by simp; omega, g3, ← List.append_assoc]
     congr 1
     have := hw.2.2
     rwa [hlr, show n + (((v - a) / 2 ^ p).toNat + 1 + p) = n + ((v - a) / 2 ^ p).toNat + 1 + p by omega] at this
def ER (l : List Int) (p : Int) (r : Tapi_Filter × Int) : Prop :=
 (4096 < l.length ∧ r = ((0, []), 4)) ∨ (l.length ≤ 4096 ∧ (p < 0 ∨ 32 < p) ∧ r = ((0, []), 5)) ∨ (l.length ≤ 4096 ∧ 0 ≤ p ∧ p ≤ 32 ∧ ¬ Asc l ∧ r = ((0, []), 6)) ∨ (l.length ≤ 4096 ∧ 0 ≤ p ∧ p ≤ 32 ∧ Asc l ∧ ESR l.length [] 0 (encS p.toNat 0 0 l) r)
theorem ESR_unique {len : Nat} {d : List Int} {n : Nat} {x : Option (List Bool)} {r r' : Tapi_Filter × Int} (h : ESR len d n x r) (h' : ESR len d n x r') : r = r' := by
 unfold ESR at h h'
 cases x with
 | none => rw [h, h']
 | some B =>
  obtain ⟨y, rfl, h1, h2, h3⟩ := h
  obtain ⟨z, rfl, g1, g2, g3⟩ := h'
  rw [VB_ext h2 g2 (h3.trans g3.symm)]
theorem ER_unique {l : List Int} {p : Int} {r r' : Tapi_Filter × Int} (h : ER l p r) (h' : ER l p r') : r = r' := by
 unfold ER at h h'
 rcases h with ⟨a1, rfl⟩ | ⟨a1, a2, rfl⟩ | ⟨a1, a2, a3, a4, rfl⟩ | ⟨a1, a2, a3, a4, a5⟩
 ·rcases h' with ⟨b1, rfl⟩ | ⟨b1, b2, rfl⟩ | ⟨b1, b2, b3, b4, rfl⟩ | ⟨b1, b2, b3, b4, b5⟩ <;> first | rfl | (exfalso; omega)
 ·rcases h' with ⟨b1, rfl⟩ | ⟨b1, b2, rfl⟩ | ⟨b1, b2, b3, b4, rfl⟩ | ⟨b1, b2, b3, b4, b5⟩ <;> first | rfl | (exfalso; omega)
 ·rcases h' with ⟨b1, rfl⟩ | ⟨b1, b2, rfl⟩ | ⟨b1, b2, b3, b4, rfl⟩ | ⟨b1, b2, b3, b4, b5⟩ <;> first | rfl | (exfalso; omega) | exact absurd b4 a4
 ·rcases h' with ⟨b1, rfl⟩ | ⟨b1, b2, rfl⟩ | ⟨b1, b2, b3, b4, rfl⟩ | ⟨b1, b2, b3, b4, b5⟩ <;> first | (exfalso; omega) | exact absurd a4 b4 | exact ESR_unique a5 b5
theorem VB_nil : VB [] 0 := ⟨fun x hx => absurd hx (by simp), rfl, fun i _ => by simp [bt, bb]⟩
theorem asc_chain : ∀ (l : List Int) (a : Int), (∀ h : 0 < l.length, a ≤ l[0]) → Asc l → chain a l
 | [], a, _, _ => trivial
 | v :: l, a, h, hl => ⟨h (by simp), asc_chain l v (fun h0 => hl 0 (by simpa using h0)) fun i hi => hl (i + 1) (by simpa using hi)⟩
theorem encode_eq (l : List Int) (p : Int) (hu : U64 l) (hs : l.length < 4611686018427387904) : ∃ r, Lgolomb_Encode l p = some r ∧ ER l p r := by
 rw [Lgolomb_Encode]
 by_cases h1 : 4096 < l.length
 ·rw [if_pos (by omega)]
  exact ⟨_, rfl, .inl ⟨h1, rfl⟩⟩
 ·rw [if_neg (by omega)]
  by_cases h2 : p < 0 ∨ 32 < p
  ·rw [if_pos h2]
   exact ⟨_, rfl, .inr (.inl ⟨by omega, h2, rfl⟩)⟩
  ·rw [if_neg h2]
   obtain ⟨b, hb, hb2⟩ := issorted_eq l hs
   rw [hb, bind_some']
   by_cases h3 : b = true
   ·rw [if_neg (by simp [h3])]
    obtain ⟨q, rfl⟩ : ∃ q : Nat, p = (q : Int) := ⟨p.toNat, by omega⟩
    obtain ⟨r, g1, g2⟩ := enc_loop (AR := Lbits_AppendRice) (fun d n v p h1 h2 h3 h4 h5 => ar_eq h1 h2 h3 h4 h5) (step := Lgolomb_Encode_s1 l (q : Int)) (l := l) (p := q) (by omega) (by omega) hu (fun a i d n => by rw [Lgolomb_Encode_s1, Lgolomb_Encode_k1]; rfl) l 0 0 [] 0 rfl VB_nil (by omega) (by omega) (asc_chain l 0 (fun h => (hu _ (List.getElem_mem h)).1) (hb2.1 h3))
    exact ⟨r, g1, .inr (.inr (.inr ⟨by omega, by omega, by omega, hb2.1 h3, by simpa using g2⟩))⟩
   ·rw [if_pos h3]
    exact ⟨_, rfl, .inr (.inr (.inl ⟨by omega, by omega, by omega, fun h => h3 (hb2.2 h), rfl⟩))⟩
theorem rencode_eq (l : List Int) (p : Int) (hu : U64 l) (hs : l.length < 4611686018427387904) : ∃ r, Lref19_Encode l p = some r ∧ ER l p r := by
 rw [Lref19_Encode]
 by_cases h1 : 4096 < l.length
 ·rw [if_pos (by omega)]
  exact ⟨_, rfl, .inl ⟨h1, rfl⟩⟩
 ·rw [if_neg (by omega)]
  by_cases h2 : p < 0 ∨ 32 < p
  ·rw [if_pos h2]
   exact ⟨_, rfl, .inr (.inl ⟨by omega, h2, rfl⟩)⟩
  ·rw [if_neg h2]
   obtain ⟨q, rfl⟩ : ∃ q : Nat, p = (q : Int) := ⟨p.toNat, by omega⟩
   refine runLoop_inv (step := Lref19_Encode_s1 l (q : Int)) (fun m s => ∃ i : Nat, s = ((i + 1 : Nat) : Int) ∧ i ≤ l.length ∧ (∀ j (h : j + 1 < l.length), j < i → l[j] ≤ l[j + 1]) ∧ m = l.length - i) _ ?_ _ _ ⟨0, rfl, by omega, fun j h hj => by omega, rfl⟩
   rintro m s ⟨i, rfl, hi, hj, rfl⟩
   by_cases hil : i + 1 < l.length
   ·have h0 : i < l.length := by omega
    by_cases hx : l[i + 1] < l[i]
    ·refine .inr ⟨((0, []), 6), ?_, .inr (.inr (.inl ⟨by omega, by omega, by omega, fun h => by have := h i hil; omega, rfl⟩))⟩
     simp only [Lref19_Encode_s1, if_pos (show ((i + 1 : Nat) : Int) < (l.length : Int) by omega), wP (show i < 9223372036854775807 by omega), idx_bind h0, idx_bind hil, if_pos hx]
    ·refine .inl ⟨l.length - (i + 1), ((i + 1 + 1 : Nat) : Int), by omega, ?_, i + 1, rfl, by omega, ?_, rfl⟩
     ·simp only [Lref19_Encode_s1, if_pos (show ((i + 1 : Nat) : Int) < (l.length : Int) by omega), wP (show i < 9223372036854775807 by omega), idx_bind h0, idx_bind hil, if_neg hx, wS (show i + 1 < 9223372036854775807 by omega)]
     ·intro j h hji
      by_cases e : j = i
      ·subst e; omega
      ·exact hj j h (by omega)
   ·have hasc : Asc l := fun j h => hj j h (by omega)
    obtain ⟨r, g1, g2⟩ := enc_loop (AR := Lref18_AppendRice) (fun d n v p h1 h2 h3 h4 h5 => rar_eq h1 h2 h3 h4 h5) (step := Lref19_Encode_s2 l (q : Int)) (l := l) (p := q) (by omega) (by omega) hu (fun a i d n => by rw [Lref19_Encode_s2, Lref19_Encode_k2]; rfl) l 0 0 [] 0 rfl VB_nil (by omega) (by omega) (asc_chain l 0 (fun h => (hu _ (List.getElem_mem h)).1) hasc)
    refine .inr ⟨r, ?_, .inr (.inr (.inr ⟨by omega, by omega, by omega, hasc, by simpa using g2⟩))⟩
    simp only [Lref19_Encode_s1, if_neg (show ¬ ((i + 1 : Nat) : Int) < (l.length : Int) by omega), Lref19_Encode_k1]
    rw [show ((0 : Nat) : Int) = 0 from rfl] at g1
    rw [g1]
    rfl
theorem enc_both (l : List Int) (p : Int) (hu : U64 l) (hs : l.length < 4611686018427387904) : ∃ r, Lgolomb_Encode l p = some r ∧ Lref19_Encode l p = some r ∧ ER l p r := by
 obtain ⟨r, h1, h2⟩ := encode_eq l p hu hs
 obtain ⟨r', h3, h4⟩ := rencode_eq l p hu hs
 exact ⟨r, h1, by rw [h3, ER_unique h4 h2], h2⟩
end Go.Lc
end
section
/- Values of items: the program's SipHash is the reference's. -/
namespace Go.Lc
open Go.RowKit
open Go.Av
set_option linter.unusedVariables false
set_option linter.unusedSimpArgs false
set_option maxRecDepth 100000

theorem wu_range (x : Int) : 0 ≤ IntKind.u64.wrap x ∧ IntKind.u64.wrap x ≤ 18446744073709551615 := by
 simp [IntKind.wrap, IntKind.signed, IntKind.bits]
 omega
theorem bu_range (op : BinOp) (x y : Int) : 0 ≤ bits op .u64 x y ∧ bits op .u64 x y ≤ 18446744073709551615 := wu_range _
def rt (a0 a1 : Int) : Int := bits .or .u64 (IntKind.u64.wrap (a0 * (2 ^ (min (bits .and .u64 (IntKind.u64.wrap (a1)) 63).toNat 64)))) ((a0).fdiv (2 ^ (min (IntKind.u64.wrap (64 - (bits .and .u64 (IntKind.u64.wrap (a1)) 63))).toNat 64)))
theorem rt_eq (a b : Int) : Lmath_bits_RotateLeft64 a b = some (rt a b) := by
 have h1 := bu_range .and (IntKind.u64.wrap b) 63
 have h2 := wu_range (64 - (bits .and .u64 (IntKind.u64.wrap b) 63))
 rw [Lmath_bits_RotateLeft64, chk_bind (by omega), chk_bind (by omega)]
 rfl
def q4 (a b c d : Int) : Arr 4 := ⟨[a, b, c, d], rfl⟩
theorem q4_all (v : Arr 4) : ∃ a b c d, v = q4 a b c d := by
 obtain ⟨l, hl⟩ := v
 match l, hl with
 | [a, b, c, d], _ => exact ⟨a, b, c, d, rfl⟩
section
variable {a b c d x : Int}
theorem q4p0 : (q4 a b c d).put 0 x = q4 x b c d := rfl
theorem q4p1 : (q4 a b c d).put 1 x = q4 a x c d := rfl
theorem q4p2 : (q4 a b c d).put 2 x = q4 a b x d := rfl
theorem q4p3 : (q4 a b c d).put 3 x = q4 a b c x := rfl
theorem q4a0 : (q4 a b c d).at 0 = a := rfl
theorem q4a1 : (q4 a b c d).at 1 = b := rfl
theorem q4a2 : (q4 a b c d).at 2 = c := rfl
theorem q4a3 : (q4 a b c d).at 3 = d := rfl
end
def rnd (v : Arr 4) : Arr 4 :=
 let a1 := IntKind.u64.wrap (v.at 0 + v.at 1)
 let b1 := bits .xor .u64 (rt (v.at 1) 13) a1
 let c1 := IntKind.u64.wrap (v.at 2 + v.at 3)
 let d1 := bits .xor .u64 (rt (v.at 3) 16) c1
 let a3 := IntKind.u64.wrap (rt a1 32 + d1)
 let c2 := IntKind.u64.wrap (c1 + b1)
 q4 a3 (bits .xor .u64 (rt b1 17) c2) (rt c2 32) (bits .xor .u64 (rt d1 21) a3)
def rndN : Nat → Arr 4 → Arr 4
 | 0, v => v
 | n + 1, v => rndN n (rnd v)
theorem rounds_loop (n : Nat) (hn : n < 100) : ∀ (k i : Nat) (v : Arr 4), n - i = k → i ≤ n → runLoop (Lsip_rounds_s1 (n : Int)) ((i : Int), v) = some (rndN k v) := by
 intro k
 induction k with
 | zero =>
  intro i v h hi
  refine runLoop_end ?_
  simp only [Lsip_rounds_s1, if_neg (show ¬ (i : Int) < (n : Int) by omega), Lsip_rounds_k1]
  rfl
 | succ k ih =>
  intro i v h hi
  rw [rndN, ← ih (i + 1) (rnd v) (by omega) (by omega)]
  refine runLoop_step ?_
  obtain ⟨a, b, c, d, rfl⟩ := q4_all v
  simp only [Lsip_rounds_s1, if_pos (show (i : Int) < (n : Int) by omega), rt_eq, bind_some', q4p0, q4p1, q4p2, q4p3, q4a0, q4a1, q4a2, q4a3, rnd, wS (show i < 9223372036854775807 by omega)]
theorem rounds_eq (n : Nat) (hn : n < 100) (v : Arr 4) : Lsip_rounds v (n : Int) = some (rndN n v) := rounds_loop n hn n 0 v (by omega) (by omega)
def absb (v : Arr 4) (m : Int) : Arr 4 :=
 let w := rndN 2 (v.put 3 (bits .xor .u64 (v.at 3) m))
 w.put 0 (bits .xor .u64 (w.at 0) m)
theorem absorb_eq (v : Arr 4) (m : Int) : Lsip_absorb v m = some (absb v m) := by
 rw [Lsip_absorb, show (2 : Int) = ((2 : Nat) : Int) from rfl, rounds_eq 2 (by omega), bind_some']
 rfl
theorem word_tot (l : List Int) (h : l.length ≤ 100000) : ∃ w, Lsip_word l = some w := by
 rw [Lsip_word]
 obtain ⟨r, h1, _⟩ := runLoop_inv (step := Lsip_word_s1 l) (fun m s => ∃ (w : Int) (i : Nat), s = (w, (i : Int)) ∧ i ≤ l.length ∧ m = l.length - i) (fun _ => True) (by
  rintro m s ⟨w, i, rfl, hi, rfl⟩
  by_cases hil : i < l.length
  ·refine .inl ⟨l.length - (i + 1), (bits .or .u64 w (IntKind.u64.wrap ((IntKind.u64.wrap l[i]) * (2 ^ (min (IntKind.i64.wrap (8 * (i : Int))).toNat 64)))), ((i + 1 : Nat) : Int)), by omega, ?_, _, i + 1, rfl, by omega, rfl⟩
   ·simp only [Lsip_word_s1, if_pos (show (i : Int) < (l.length : Int) by omega)]
    rw [idx_bind hil, chk_bind (by rw [wi _ (by omega)]; omega), wS (by omega)]
  ·refine .inr ⟨w, ?_, trivial⟩
   simp only [Lsip_word_s1, if_neg (show ¬ (i : Int) < (l.length : Int) by omega), Lsip_word_k1]
   rfl) _ (0, 0) ⟨0, 0, rfl, by omega, rfl⟩
 exact ⟨r, h1⟩
noncomputable def wdv (l : List Int) : Int := (Lsip_word l).getD 0
theorem word_eq (l : List Int) (h : l.length ≤ 100000) : Lsip_word l = some (wdv l) := by
 obtain ⟨w, hw⟩ := word_tot l h
 rw [wdv, hw]
 rfl
noncomputable def sumE (l : List Int) (v : Arr 4) (t : List Int) : Int :=
 let w := absb v (bits .or .u64 (wdv t) (IntKind.u64.wrap ((IntKind.u64.wrap (((l.length : Int)).tmod 256)) * 72057594037927936)))
 let z := rndN 4 (w.put 2 (bits .xor .u64 (w.at 2) 255))
 bits .xor .u64 (bits .xor .u64 (bits .xor .u64 (z.at 0) (z.at 1)) (z.at 2)) (z.at 3)
noncomputable def sumL (l : List Int) : Nat → Arr 4 → List Int → Int
 | 0, v, t => sumE l v t
 | n + 1, v, t => sumL l n (absb v (wdv (t.take 8))) (t.drop 8)
theorem sum_loop (l : List Int) (hl : l.length ≤ 100000) : ∀ (n i : Nat) (v : Arr 4), l.length / 8 - i = n → i ≤ l.length / 8 → runLoop (Lsip_Sum_s1 l) ((i : Int), v) = some (sumL l n v (l.drop (8 * i))) := by
 have e8 : IntKind.i64.wrap (((l.length : Int)).tdiv 8) = ((l.length / 8 : Nat) : Int) := by rw [tdiv8, wI _ (by omega)]
 intro n
 induction n with
 | zero =>
  intro i v h hi
  have e : i = l.length / 8 := by omega
  subst e
  have e3 : IntKind.i64.wrap (8 * ((l.length / 8 : Nat) : Int)) = ((8 * (l.length / 8) : Nat) : Int) := by rw [wi _ (by omega)]; omega
  refine runLoop_exit ?_
  simp only [Lsip_Sum_s1, e8, if_neg (show ¬ ((l.length / 8 : Nat) : Int) < ((l.length / 8 : Nat) : Int) by omega), Lsip_Sum_k1, e3]
  rw [chk_bind (by omega), show (((8 * (l.length / 8) : Nat) : Int)).toNat = 8 * (l.length / 8) by omega, word_eq _ (by simp; omega), bind_some', absorb_eq, bind_some', show (4 : Int) = ((4 : Nat) : Int) from rfl, rounds_eq 4 (by omega), bind_some']
  rfl
 | succ n ih =>
  intro i v h hi
  have e3 : IntKind.i64.wrap (8 * (i : Int)) = ((8 * i : Nat) : Int) := by rw [wi _ (by omega)]; omega
  have e4 : IntKind.i64.wrap (((8 * i : Nat) : Int) + 8) = ((8 * i + 8 : Nat) : Int) := by rw [wi _ (by omega)]; omega
  have := ih (i + 1) (absb v (wdv ((l.drop (8 * i)).take 8))) (by omega) (by omega)
  rw [sumL, List.drop_drop, show 8 * i + 8 = 8 * (i + 1) by omega, ← this]
  refine runLoop_step ?_
  simp only [Lsip_Sum_s1, e8, if_pos (show (i : Int) < ((l.length / 8 : Nat) : Int) by omega), e3, e4]
  rw [chk_bind (by omega), show (((8 * i + 8 : Nat) : Int)).toNat = 8 * i + 8 by omega, show (((8 * i : Nat) : Int)).toNat = 8 * i by omega, List.drop_take, show 8 * i + 8 - 8 * i = 8 by omega, word_eq _ (by simp; omega), bind_some', absorb_eq, bind_some', wS (by omega)]
noncomputable def sipV (k : Arr 2) (l : List Int) : Int := sumL l (l.length / 8) (((((zA 4).put 0 (bits .xor .u64 (k.at 0) 8317987319222330741)).put 1 (bits .xor .u64 (k.at 1) 7237128888997146477)).put 2 (bits .xor .u64 (k.at 0) 7816392313619706465)).put 3 (bits .xor .u64 (k.at 1) 8387220255154660723)) l
theorem sum_eq (k : Arr 2) (l : List Int) (hl : l.length ≤ 100000) : Lsip_Sum k l = some (sipV k l) := by
 have := sum_loop l hl (l.length / 8) 0 (((((zA 4).put 0 (bits .xor .u64 (k.at 0) 8317987319222330741)).put 1 (bits .xor .u64 (k.at 1) 7237128888997146477)).put 2 (bits .xor .u64 (k.at 0) 7816392313619706465)).put 3 (bits .xor .u64 (k.at 1) 8387220255154660723)) (by omega) (by omega)
 rw [Lsip_Sum, show (0 : Int) = ((0 : Nat) : Int) from rfl, this]
 rfl
noncomputable def scl (h n : Int) : Int := ((Lmath_bits_Mul64 h n).map (·.1)).getD 0
theorem scale_eq (h n : Int) : Lsip_Scale h n = some (scl h n) := rfl
theorem scl_range (h n : Int) : 0 ≤ scl h n ∧ scl h n ≤ 18446744073709551615 := wu_range _
/-- the value of an item -/
noncomputable def valI (k : Arr 2) (n m : Int) (x : List Int) : Int := scl (sipV k x) (IntKind.u64.wrap ((IntKind.u64.wrap n) * m))
theorem val_u64 (k : Arr 2) (n m : Int) (l : List (List Int)) : U64 (l.map (valI k n m)) := by
 intro x hx
 obtain ⟨y, _, rfl⟩ := List.mem_map.1 hx
 exact scl_range _ _
end Go.Lc
end
section
/- Filters of items, and the values of items: the program's are the reference's. -/
namespace Go.Lc
open Go.RowKit
open Go.Av
set_option linter.unusedVariables false
set_option linter.unusedSimpArgs false
set_option maxRecDepth 100000

theorem mget_mput' {K V : Type} [DecidableEq K] (k a : K) (v : V) (l : List (K × V)) : mget k (mput a v l) = if k = a then some v else mget k l := by
 induction l with
 | nil => simp [mput, mget]
 | cons x l ih =>
  obtain ⟨b, w⟩ := x
  by_cases h1 : a = b
  ·subst h1
   by_cases h2 : k = a <;> simp [mput, mget, h2]
  ·by_cases h2 : k = b
   ·subst h2
    simp [mput, mget, h1, Ne.symm h1]
   ·simp [mput, mget, h1, h2, ih]
theorem strOf_inj {a b : List Int} (ha : Byt a) (hb : Byt b) (h : strOf a = strOf b) : a = b := by
 have h1 : a.map (fun n => UInt8.ofNat n.toNat) = b.map (fun n => UInt8.ofNat n.toNat) := by
  have := congrArg (fun s : ByteArray => s.data.toList) h
  simpa [strOf] using this
 have hl : a.length = b.length := by simpa using congrArg List.length h1
 apply List.ext_getElem hl
 intro i h2 h3
 have h4 := congrArg (fun l => l[i]?) h1
 simp only [List.getElem?_map, List.getElem?_eq_getElem h2, List.getElem?_eq_getElem h3, Option.map_some, Option.some.injEq] at h4
 have g1 := ha _ (List.getElem_mem h2)
 have g2 := hb _ (List.getElem_mem h3)
 have h5 := congrArg UInt8.toNat h4
 simp only [UInt8.toNat_ofNat'] at h5
 omega
def Items (l : List (List Int)) : Prop := ∀ x ∈ l, Byt x ∧ x.length ≤ 100000

/-! the values -/
theorem srt_perm (l : List Int) : (srt l).Perm l := List.mergeSort_perm _ _
theorem srt_u64 {l : List Int} (h : U64 l) : U64 (srt l) := fun x hx => h x ((srt_perm l).mem_iff.1 hx)
theorem map_take_succ {α β : Type} (f : α → β) (l : List α) (i : Nat) (h : i < l.length) : (l.take (i + 1)).map f = (l.take i).map f ++ [f l[i]] := by
 rw [List.take_succ_eq_append_getElem h, List.map_append]
 rfl
theorem values_eq (k : Arr 2) (l : List (List Int)) (n m : Int) (hi : Items l) (hl : l.length ≤ 100000) : Lgolomb_values k l n m = some (srt (l.map (valI k n m))) := by
 rw [Lgolomb_values]
 obtain ⟨r, h1, rfl⟩ := runLoop_inv (step := Lgolomb_values_s1 l k n m) (fun q s => ∃ i : Nat, s = ((i : Int), (l.take i).map (valI k n m)) ∧ i ≤ l.length ∧ q = l.length - i) (fun r => r = srt (l.map (valI k n m))) (by
  rintro q s ⟨i, rfl, hil, rfl⟩
  by_cases h : i < l.length
  ·refine .inl ⟨l.length - (i + 1), (((i + 1 : Nat) : Int), (l.take (i + 1)).map (valI k n m)), by omega, ?_, i + 1, rfl, by omega, rfl⟩
   simp only [Lgolomb_values_s1, if_pos (show (i : Int) < (l.length : Int) by omega)]
   rw [idx_bind h, sum_eq k _ (hi _ (List.getElem_mem h)).2, bind_some', scale_eq, bind_some', chk_bind (by simp; omega), wS (by omega), map_take_succ _ _ _ h]
   rfl
  ·refine .inr ⟨_, ?_, rfl⟩
   simp only [Lgolomb_values_s1, if_neg (show ¬ (i : Int) < (l.length : Int) by omega), Lgolomb_values_k1]
   rw [List.take_of_length_le (by omega), sort_eq _ (by simp; omega), bind_some', chk_bind (srt_length _)]
   rfl) _ (0, []) ⟨0, rfl, by omega, rfl⟩
 exact h1

/-! the sort of the reference -/
/-! different items -/
def dfs (acc : List (List Int)) : List (List Int) → List (List Int)
 | [] => acc
 | x :: l => if x ∈ acc then dfs acc l else dfs (acc ++ [x]) l
theorem dfs_snoc : ∀ (l acc : List (List Int)) (x : List Int), dfs acc (l ++ [x]) = if x ∈ dfs acc l then dfs acc l else dfs acc l ++ [x]
 | [], acc, x => by by_cases h : x ∈ acc <;> simp [dfs, h]
 | y :: l, acc, x => by
  simp only [List.cons_append, dfs]
  split <;> exact dfs_snoc l _ x
theorem dfs_mem : ∀ (l acc : List (List Int)) (x : List Int), x ∈ dfs acc l ↔ x ∈ acc ∨ x ∈ l
 | [], acc, x => by simp [dfs]
 | y :: l, acc, x => by
  simp only [dfs]
  split
  ·rename_i h
   rw [dfs_mem l acc x]
   simp only [List.mem_cons]
   constructor
   ·rintro (h | h) <;> simp [h]
   ·rintro (h1 | rfl | h1) <;> simp [*]
  ·rw [dfs_mem l _ x]
   simp [or_assoc]
theorem dfs_len : ∀ (l acc : List (List Int)), (dfs acc l).length ≤ acc.length + l.length
 | [], acc => by simp [dfs]
 | y :: l, acc => by
  simp only [dfs]
  split
  ·have := dfs_len l acc; simp; omega
  ·have := dfs_len l (acc ++ [y]); simp at this ⊢; omega
theorem take_snoc {α : Type} (l : List α) (i : Nat) (h : i < l.length) : l.take (i + 1) = l.take i ++ [l[i]] := List.take_succ_eq_append_getElem h
def BR (k : Arr 2) (l : List (List Int)) (p m : Int) (r : Tapi_Filter × Int) : Prop :=
 (4096 < l.length ∧ r = ((0, []), 4)) ∨ (l.length ≤ 4096 ∧ (((m < 1 ∨ 1099511627776 < m) ∨ p < 0) ∨ 32 < p) ∧ r = ((0, []), 5)) ∨ (l.length ≤ 4096 ∧ ¬ (((m < 1 ∨ 1099511627776 < m) ∨ p < 0) ∨ 32 < p) ∧ ER (srt ((dfs [] l).map (valI k ((dfs [] l).length : Int) m))) p r)
theorem dfs_items {l : List (List Int)} (h : Items l) : Items (dfs [] l) := fun x hx => h x (by simpa using (dfs_mem l [] x).1 hx)
theorem build_eq (k : Arr 2) (l : List (List Int)) (p m : Int) (hi : Items l) (hl : l.length ≤ 100000) : ∃ r, Lgolomb_Build k l p m = some r ∧ BR k l p m r := by
 rw [Lgolomb_Build]
 by_cases h1 : 4096 < l.length
 ·rw [if_pos (by omega)]
  exact ⟨_, rfl, .inl ⟨h1, rfl⟩⟩
 ·rw [if_neg (by omega)]
  by_cases h2 : ((m < 1 ∨ 1099511627776 < m) ∨ p < 0) ∨ 32 < p
  ·rw [if_pos h2]
   exact ⟨_, rfl, .inr (.inl ⟨by omega, h2, rfl⟩)⟩
  ·rw [if_neg h2]
   refine runLoop_inv (step := Lgolomb_Build_s1 l k m p) (fun q s => ∃ (i : Nat) (mp : List (ByteArray × Bool)), s = ((i : Int), mp, dfs [] (l.take i)) ∧ i ≤ l.length ∧ (∀ x, Byt x → ((mget (strOf x) mp).getD false = true ↔ x ∈ dfs [] (l.take i))) ∧ q = l.length - i) _ ?_ _ _ ⟨0, [], rfl, by omega, fun x _ => by simp [mget, dfs], rfl⟩
   rintro q s ⟨i, mp, rfl, hil, hmp, rfl⟩
   have hdl := dfs_len (l.take i) []
   by_cases h : i < l.length
   ·have hx := (hi _ (List.getElem_mem h)).1
    by_cases hq : l[i] ∈ dfs [] (l.take i)
    ·refine .inl ⟨l.length - (i + 1), (((i + 1 : Nat) : Int), mp, dfs [] (l.take (i + 1))), by omega, ?_, i + 1, mp, rfl, by omega, ?_, rfl⟩
     ·simp only [Lgolomb_Build_s1, if_pos (show (i : Int) < (l.length : Int) by omega)]
      rw [idx_bind h, if_neg (by simp [(hmp _ hx).2 hq]), Lgolomb_Build_k2, wS (by omega), take_snoc _ _ h, dfs_snoc, if_pos hq]
     ·intro x hb
      rw [hmp x hb, take_snoc _ _ h, dfs_snoc, if_pos hq]
    ·refine .inl ⟨l.length - (i + 1), (((i + 1 : Nat) : Int), mput (strOf l[i]) true mp, dfs [] (l.take (i + 1))), by omega, ?_, i + 1, _, rfl, by omega, ?_, rfl⟩
     ·simp only [Lgolomb_Build_s1, if_pos (show (i : Int) < (l.length : Int) by omega)]
      rw [idx_bind h, if_pos (fun e => hq ((hmp _ hx).1 e)), chk_bind (by simp at hdl; omega), Lgolomb_Build_k2, wS (by omega), take_snoc _ _ h, dfs_snoc, if_neg hq]
     ·intro x hb
      rw [mget_mput', take_snoc _ _ h, dfs_snoc, if_neg hq]
      by_cases e : x = l[i]
      ·subst e; simp
      ·rw [if_neg (fun e2 => e (strOf_inj hb hx e2)), hmp x hb]
       simp [e]
   ·have hdi := dfs_items hi
    have hdl2 := dfs_len l []
    simp only [List.length_nil, Nat.zero_add] at hdl2
    obtain ⟨r, g1, g2, g3⟩ := enc_both (srt ((dfs [] l).map (valI k ((dfs [] l).length : Int) m))) p (srt_u64 (val_u64 _ _ _ _)) (by rw [srt_length]; simp; omega)
    refine .inr ⟨r, ?_, .inr (.inr ⟨by omega, h2, g3⟩)⟩
    simp only [Lgolomb_Build_s1, if_neg (show ¬ (i : Int) < (l.length : Int) by omega), Lgolomb_Build_k1]
    rw [List.take_of_length_le (by omega), values_eq k _ _ m hdi (by omega), bind_some', g1, bind_some']
    rfl
/-! the check of sanity -/
theorem vb40 : VB [40] 6 := ⟨by intro x hx; simp at hx; omega, rfl, fun i hi => by
 rcases Nat.lt_or_ge i 8 with h | h
 ·obtain rfl | rfl : i = 6 ∨ i = 7 := by omega
  ·decide
  ·decide
 ·rw [bt, show [(40 : Int)].getD (i / 8) 0 = 0 by rw [List.getD_eq_getElem?_getD, List.getElem?_eq_none (by simp; omega)]; rfl]
  exact bb_zero _⟩
theorem sane_eq : Llaw19_sane = some true := by
 obtain ⟨r, h1, h2⟩ := encode_eq [1, 3] 2 (by intro x hx; simp at hx; omega) (by simp)
 obtain ⟨r', h3, h4⟩ := build_eq (⟨[0, 0], rfl⟩ : Arr 2) [] 2 5 (by intro x hx; cases hx) (by simp)
 have e1 : r = ((2, [40]), 0) := by
  rcases h2 with ⟨a1, _⟩ | ⟨_, a2, _⟩ | ⟨_, _, _, a4, _⟩ | ⟨_, _, _, _, a5⟩
  ·simp at a1
  ·omega
  ·exact absurd (fun i h => by
    have : i = 0 := by simp at h; omega
    subst this
    show (1 : Int) ≤ 3
    decide) a4
  ·have eB : encS (2 : Int).toNat 0 0 [1, 3] = some [false, false, true, false, true, false] := by decide
   rw [eB] at a5
   obtain ⟨y, rfl, _, g2, g3⟩ := a5
   have : y.1 = [40] := VB_ext g2 vb40 (by
    rw [g3]
    decide)
   rw [this]
   rfl
 have e2 : r' = ((0, []), 0) := by
  rcases h4 with ⟨a1, _⟩ | ⟨_, a2, _⟩ | ⟨_, _, a3⟩
  ·simp at a1
  ·omega
  ·rcases a3 with ⟨a1, _⟩ | ⟨_, a2, _⟩ | ⟨_, _, _, a4, _⟩ | ⟨_, _, _, _, a5⟩
   ·simp [srt, dfs] at a1
   ·omega
   ·exact absurd (fun i h => by simp [srt, dfs] at h) a4
   ·simp only [dfs, List.map_nil, srt, List.mergeSort_nil, encS] at a5
    obtain ⟨y, rfl, _, g2, g3⟩ := a5
    have : y.1 = [] := List.length_eq_zero_iff.1 (by have := g2.len; simpa using this)
    rw [this]
    rfl
 subst e1 e2
 rw [Llaw19_sane, h1, bind_some', h3, bind_some']
 simp
end Go.Lc
end
section
/- Laws 19: Encodes, Builds, Repeats. -/
namespace Go.Lc
open Go.RowKit
open Go.Av
set_option linter.unusedVariables false
set_option linter.unusedSimpArgs false
set_option maxRecDepth 100000

end Go.Lc
end
section
/- Values of items without repetitions: the program's are the reference's. -/
namespace Go.Lc
open Go.RowKit
open Go.Av
set_option linter.unusedVariables false
set_option linter.unusedSimpArgs false
set_option maxRecDepth 100000

theorem same_list (l : List Int) (hl : l.length ≤ 1000000) : Llaw19_same l l = some true := by
 rw [Llaw19_same, if_neg (by simp)]
 obtain ⟨r, h, rfl⟩ := runLoop_inv (step := Llaw19_same_s1 l l) (fun q s => ∃ i : Nat, s = (i : Int) ∧ i ≤ l.length ∧ q = l.length - i) (fun r => r = true) (by
  rintro q s ⟨i, rfl, hi, rfl⟩
  by_cases h : i < l.length
  ·refine .inl ⟨l.length - (i + 1), ((i + 1 : Nat) : Int), by omega, ?_, i + 1, rfl, by omega, rfl⟩
   simp only [Llaw19_same_s1, if_pos (show (i : Int) < (l.length : Int) by omega)]
   rw [idx_bind h, idx_bind h, if_neg (by simp), wS (by omega)]
  ·refine .inr ⟨true, ?_, rfl⟩
   simp only [Llaw19_same_s1, if_neg (show ¬ (i : Int) < (l.length : Int) by omega), Llaw19_same_k1]
   rfl) _ 0 ⟨0, rfl, by omega, rfl⟩
 exact h
end Go.Lc
end
section
/- Filters that are read: the program's Decode is the reference's. -/
namespace Go.Lc
open Go.RowKit
open Go.Av
set_option linter.unusedVariables false
set_option linter.unusedSimpArgs false
set_option maxRecDepth 100000

theorem VB_full {d : List Int} (h : Byt d) : VB d (8 * d.length) := ⟨h, by omega, fun i hi => by
 rw [bt, show d.getD (i / 8) 0 = 0 by rw [List.getD_eq_getElem?_getD, List.getElem?_eq_none (by omega)]; rfl]
 exact bb_zero _⟩
def numS (d : List Int) (a : Nat) : Nat → Int
 | 0 => 0
 | p + 1 => 2 * numS d a p + (if bt d (a + p) = true then 1 else 0)
theorem numS_range (d : List Int) (a : Nat) : ∀ p, 0 ≤ numS d a p ∧ numS d a p < 2 ^ p
 | 0 => by simp [numS]
 | p + 1 => by
  have := numS_range d a p
  rw [numS, Int.pow_succ]
  split <;> omega
theorem or1 {x : Nat} (h : 2 * x + 1 ≤ 18446744073709551615) : bits .or .u64 (2 * (x : Int)) 1 = 2 * (x : Int) + 1 := by
 show IntKind.u64.wrap ((BitVec.ofInt 64 (2 * (x : Int)) ||| BitVec.ofInt 64 1).toNat : Int) = _
 rw [BitVec.toNat_or]
 have e1 : (BitVec.ofInt 64 (2 * (x : Int))).toNat = 2 * x := by
  simp [BitVec.toNat_ofInt]
  omega
 have e2 : (BitVec.ofInt 64 1).toNat = 1 := rfl
 have e3 := Nat.two_pow_add_eq_or_of_lt (i := 1) (b := 1) (by omega) x
 rw [e1, e2, show 2 * x ||| 1 = 2 * x + 1 by simpa using e3.symm, wu _ (by omega)]
 omega
theorem pow_le {p q : Nat} (h : p ≤ q) : (2 : Int) ^ p ≤ 2 ^ q := by
 have := Nat.pow_le_pow_right (n := 2) (by omega) h
 exact_mod_cast this
theorem number_eq (d : List Int) (n : Int) (a p : Nat) (hb : Byt d) (hp : p ≤ 40) (hl : a + p ≤ 8 * d.length) (hd : d.length ≤ 400000) : Lbits_number (d, n) (a : Int) (p : Int) = some (numS d a p) := by
 rw [Lbits_number]
 obtain ⟨r, h, rfl⟩ := runLoop_inv (step := Lbits_number_s1 (p : Int) (d, n) (a : Int)) (fun q s => ∃ i : Nat, s = (numS d a i, (i : Int)) ∧ i ≤ p ∧ q = p - i) (fun r => r = numS d a p) (by
  rintro q s ⟨i, rfl, hi, rfl⟩
  by_cases h : i < p
  ·have hr := numS_range d a i
   have hpw : (2 : Int) ^ i ≤ 2 ^ 39 := pow_le (by omega)
   have e39 : (2 : Int) ^ 39 = 549755813888 := rfl
   refine .inl ⟨p - (i + 1), (numS d a (i + 1), ((i + 1 : Nat) : Int)), by omega, ?_, i + 1, rfl, by omega, rfl⟩
   simp only [Lbits_number_s1, if_pos (show (i : Int) < (p : Int) by omega), Lbits_number_k2]
   rw [wA (by omega), bit_eq hb (by omega) (by omega), bind_some', wS (by omega), numS]
   obtain ⟨x, hx⟩ : ∃ x : Nat, numS d a i = (x : Int) := ⟨(numS d a i).toNat, by omega⟩
   rw [hx] at hr ⊢
   rw [wu _ (by omega), Int.mul_comm (x : Int) 2]
   by_cases hbt : bt d (a + i) = true
   ·rw [if_pos hbt, if_pos hbt, or1 (by omega)]
   ·rw [if_neg hbt, if_neg hbt, Int.add_zero]
  ·refine .inr ⟨_, ?_, rfl⟩
   simp only [Lbits_number_s1, if_neg (show ¬ (i : Int) < (p : Int) by omega), Lbits_number_k1]
   rw [show i = p by omega]
   rfl) _ (0, 0) ⟨0, rfl, by omega, rfl⟩
 exact h
theorem rnumber_eq (d : List Int) (n : Int) (a p : Nat) (hb : Byt d) (hp : p ≤ 40) (hl : a + p ≤ 8 * d.length) (hd : d.length ≤ 400000) : Lref18_number (d, n) (a : Int) (p : Int) = some (numS d a p) := by
 rw [Lref18_number]
 obtain ⟨r, h, rfl⟩ := runLoop_inv (step := Lref18_number_s1 (a : Int) (p : Int) (d, n)) (fun q s => ∃ i : Nat, s = (numS d a i, ((a + i : Nat) : Int)) ∧ i ≤ p ∧ q = p - i) (fun r => r = numS d a p) (by
  rintro q s ⟨i, rfl, hi, rfl⟩
  have ea : IntKind.i64.wrap ((a : Int) + (p : Int)) = ((a + p : Nat) : Int) := wA (by omega)
  by_cases h : i < p
  ·have hr := numS_range d a i
   have hpw : (2 : Int) ^ i ≤ 2 ^ 39 := pow_le (by omega)
   have e39 : (2 : Int) ^ 39 = 549755813888 := rfl
   refine .inl ⟨p - (i + 1), (numS d a (i + 1), ((a + (i + 1) : Nat) : Int)), by omega, ?_, i + 1, rfl, by omega, rfl⟩
   simp only [Lref18_number_s1, ea, if_pos (show ((a + i : Nat) : Int) < ((a + p : Nat) : Int) by omega), Lref18_number_k2]
   rw [rbit_eq hb (by omega) (by omega), bind_some', wS (by omega), numS]
   rw [wu (numS d a i * 2) (by omega), Int.mul_comm _ 2]
   by_cases hbt : bt d (a + i) = true
   ·rw [if_pos hbt, if_pos hbt, wu _ (by omega)]
    rfl
   ·rw [if_neg hbt, if_neg hbt, Int.add_zero]
    rfl
  ·refine .inr ⟨_, ?_, rfl⟩
   simp only [Lref18_number_s1, ea, if_neg (show ¬ ((a + i : Nat) : Int) < ((a + p : Nat) : Int) by omega), Lref18_number_k1]
   rw [show i = p by omega]
   rfl) _ (0, (a : Int)) ⟨0, by simp [numS], by omega, rfl⟩
 exact h

/-! Rice codes that are read -/
def ones (d : List Int) : Nat → Nat → Nat
 | 0, _ => 0
 | f + 1, a => if bt d a = true then ones d f (a + 1) + 1 else 0
theorem ones_spec (d : List Int) : ∀ (j f a : Nat), j ≤ f → (∀ i, i < j → bt d (a + i) = true) → ones d f a = ones d (f - j) (a + j) + j
 | 0, f, a, _, _ => rfl
 | j + 1, f, a, h, hb => by
  obtain ⟨f, rfl⟩ : ∃ g, f = g + 1 := ⟨f - 1, by omega⟩
  rw [ones, if_pos (by simpa using hb 0 (by omega)), ones_spec d j f (a + 1) (by omega) (fun i hi => by have := hb (i + 1) (by omega); rwa [show a + (i + 1) = a + 1 + i by omega] at this)]
  rw [show f + 1 - (j + 1) = f - j by omega, show a + 1 + j = a + (j + 1) by omega]
  omega
def RRS (d : List Int) (n a p : Nat) : Int × Nat × Int :=
 if 65536 < ones d (n - a) a then (0, 0, 4) else if n - (a + ones d (n - a) a) < 1 + p then (0, 0, 1) else
  (bits .or .u64 (IntKind.u64.wrap ((ones d (n - a) a : Int) * 2 ^ p)) (numS d (a + ones d (n - a) a + 1) p), a + ones d (n - a) a + 1 + p, 0)
theorem RRS_to {d : List Int} {n a p : Nat} (h : (RRS d n a p).2.2 = 0) (ha : a ≤ n) : (RRS d n a p).2.1 ≤ n := by
 unfold RRS at h ⊢
 split
 ·simp
 ·split
  ·simp
  ·simp only
   omega
theorem rr_prog (d : List Int) (n a p : Nat) (hv : VB d n) (hn : n ≤ 1600000) (ha : a ≤ n) (hp : p ≤ 32) : Lbits_ReadRice (d, (n : Int)) (a : Int) (p : Int) = some ((RRS d n a p).1, (((RRS d n a p).2.1 : Nat) : Int), (RRS d n a p).2.2) := by
 have hlen := hv.len
 rw [Lbits_ReadRice, valid_eq hv hn, bind_some', if_neg (by simp), if_neg (by simp only; omega)]
 obtain ⟨r, h, rfl⟩ := runLoop_inv (step := Lbits_ReadRice_s1 (d, (n : Int)) (a : Int) (p : Int)) (fun q s => ∃ j : Nat, s = ((a + j : Nat) : Int) ∧ a + j ≤ n ∧ j ≤ 65536 ∧ (∀ i, i < j → bt d (a + i) = true) ∧ q = n - (a + j)) (fun r => r = ((RRS d n a p).1, (((RRS d n a p).2.1 : Nat) : Int), (RRS d n a p).2.2)) (by
  rintro q s ⟨j, rfl, hj, hj6, hb, rfl⟩
  have hsp := ones_spec d j (n - a) a (by omega) hb
  by_cases h : a + j < n ∧ bt d (a + j) = true
  ·obtain ⟨h1, h2⟩ := h
   have hsp1 := ones_spec d (j + 1) (n - a) a (by omega) (fun i hi => by
    by_cases e : i = j
    ·subst e; exact h2
    ·exact hb i (by omega))
   have hst : Lbits_ReadRice_s1 (d, (n : Int)) (a : Int) (p : Int) ((a + j : Nat) : Int) = if 65536 < ((j + 1 : Nat) : Int) then some (.inr (0, 0, 4)) else some (.inl ((a + (j + 1) : Nat) : Int)) := by
    simp only [Lbits_ReadRice_s1, if_pos (show ((a + j : Nat) : Int) < (n : Int) by omega)]
    rw [bit_eq hv.byt (by omega) (by omega), bind_some', h2, bind_some', if_pos ⟨by omega, rfl⟩, wS (by omega), wi _ (by omega), show ((a + j + 1 : Nat) : Int) - (a : Int) = ((j + 1 : Nat) : Int) by omega]
    rfl
   by_cases h6 : 65536 < j + 1
   ·refine .inr ⟨(0, 0, 4), by rw [hst, if_pos (by omega)], ?_⟩
    unfold RRS
    rw [if_pos (by omega)]
    rfl
   ·exact .inl ⟨n - (a + (j + 1)), _, by omega, by rw [hst, if_neg (by omega)], j + 1, rfl, by omega, by omega, fun i hi => by
     by_cases e : i = j
     ·subst e; exact h2
     ·exact hb i (by omega), rfl⟩
  ·have hk : ones d (n - a) a = j := by
    rw [hsp]
    have : ones d (n - a - j) (a + j) = 0 := by
     rcases Nat.eq_zero_or_pos (n - a - j) with h0 | h0
     ·rw [h0]; rfl
     ·obtain ⟨f, hf⟩ : ∃ f, n - a - j = f + 1 := ⟨n - a - j - 1, by omega⟩
      rw [hf, ones, if_neg (fun e => h ⟨by omega, e⟩)]
    omega
   have hst : Lbits_ReadRice_s1 (d, (n : Int)) (a : Int) (p : Int) ((a + j : Nat) : Int) = (Lbits_ReadRice_k1 (d, (n : Int)) ((a + j : Nat) : Int) (p : Int) (a : Int)).map Sum.inr := by
    simp only [Lbits_ReadRice_s1]
    by_cases h1 : a + j < n
    ·have h2 : bt d (a + j) = false := by
      cases e : bt d (a + j) with
      | false => rfl
      | true => exact absurd ⟨h1, e⟩ h
     rw [if_pos (by omega), bit_eq hv.byt (by omega) (by omega), bind_some', h2, bind_some', if_neg (by simp)]
    ·rw [if_neg (by omega), bind_some', if_neg (by simp)]
   have hR : RRS d n a p = if n - (a + j) < 1 + p then (0, 0, 1) else (bits .or .u64 (IntKind.u64.wrap ((j : Int) * 2 ^ p)) (numS d (a + j + 1) p), a + j + 1 + p, 0) := by
    unfold RRS
    rw [hk, if_neg (by omega)]
   refine .inr ⟨_, ?_, rfl⟩
   rw [hst, Lbits_ReadRice_k1, hR]
   simp only
   rw [wi ((n : Int) - ((a + j : Nat) : Int)) (by omega), wi (1 + (p : Int)) (by omega)]
   by_cases h2 : n - (a + j) < 1 + p
   ·rw [if_pos (by omega), if_pos h2]
    rfl
   ·rw [if_neg (by omega), if_neg h2, chk_bind (by omega), wS (by omega), number_eq d _ (a + j + 1) p hv.byt (by omega) (by omega) (by omega), bind_some', wA (by omega), wi (((a + j : Nat) : Int) - (a : Int)) (by omega), show ((a + j : Nat) : Int) - (a : Int) = (j : Int) by omega, wu (j : Int) (by omega), show min ((p : Int)).toNat 64 = p by omega]
    rfl) _ (a : Int) ⟨0, rfl, by omega, by omega, fun i hi => by omega, rfl⟩
 exact h
theorem rr_ref (d : List Int) (n a p : Nat) (hv : VB d n) (hn : n ≤ 1600000) (ha : a ≤ n) (hp : p ≤ 32) : Lref18_ReadRice (d, (n : Int)) (a : Int) (p : Int) = some ((RRS d n a p).1, (((RRS d n a p).2.1 : Nat) : Int), (RRS d n a p).2.2) := by
 have hlen := hv.len
 rw [Lref18_ReadRice, rvalid_eq hv hn, bind_some', if_neg (by simp), if_neg (by simp only; omega)]
 obtain ⟨r, h, rfl⟩ := runLoop_inv (step := Lref18_ReadRice_s1 (a : Int) (d, (n : Int)) (p : Int)) (fun q s => ∃ j : Nat, s = (j : Int) ∧ a + j ≤ n ∧ j ≤ 65536 ∧ (∀ i, i < j → bt d (a + i) = true) ∧ q = n - (a + j)) (fun r => r = ((RRS d n a p).1, (((RRS d n a p).2.1 : Nat) : Int), (RRS d n a p).2.2)) (by
  rintro q s ⟨j, rfl, hj, hj6, hb, rfl⟩
  have hsp := ones_spec d j (n - a) a (by omega) hb
  have eaj : IntKind.i64.wrap ((a : Int) + (j : Int)) = ((a + j : Nat) : Int) := wA (by omega)
  by_cases h : a + j < n ∧ bt d (a + j) = true
  ·obtain ⟨h1, h2⟩ := h
   have hsp1 := ones_spec d (j + 1) (n - a) a (by omega) (fun i hi => by
    by_cases e : i = j
    ·subst e; exact h2
    ·exact hb i (by omega))
   have hst : Lref18_ReadRice_s1 (a : Int) (d, (n : Int)) (p : Int) (j : Int) = if 65536 < ((j + 1 : Nat) : Int) then some (.inr (0, 0, 4)) else some (.inl ((j + 1 : Nat) : Int)) := by
    simp only [Lref18_ReadRice_s1, eaj, if_pos (show ((a + j : Nat) : Int) < (n : Int) by omega)]
    rw [rbit_eq hv.byt (by omega) (by omega), bind_some', h2, bind_some', if_pos ⟨by omega, rfl⟩, wS (by omega)]
   by_cases h6 : 65536 < j + 1
   ·refine .inr ⟨(0, 0, 4), by rw [hst, if_pos (by omega)], ?_⟩
    unfold RRS
    rw [if_pos (by omega)]
    rfl
   ·exact .inl ⟨n - (a + (j + 1)), _, by omega, by rw [hst, if_neg (by omega)], j + 1, rfl, by omega, by omega, fun i hi => by
     by_cases e : i = j
     ·subst e; exact h2
     ·exact hb i (by omega), rfl⟩
  ·have hk : ones d (n - a) a = j := by
    rw [hsp]
    have : ones d (n - a - j) (a + j) = 0 := by
     rcases Nat.eq_zero_or_pos (n - a - j) with h0 | h0
     ·rw [h0]; rfl
     ·obtain ⟨f, hf⟩ : ∃ f, n - a - j = f + 1 := ⟨n - a - j - 1, by omega⟩
      rw [hf, ones, if_neg (fun e => h ⟨by omega, e⟩)]
    omega
   have hst : Lref18_ReadRice_s1 (a : Int) (d, (n : Int)) (p : Int) (j : Int) = (Lref18_ReadRice_k1 (d, (n : Int)) (a : Int) (j : Int) (p : Int)).map Sum.inr := by
    simp only [Lref18_ReadRice_s1, eaj]
    by_cases h1 : a + j < n
    ·have h2 : bt d (a + j) = false := by
      cases e : bt d (a + j) with
      | false => rfl
      | true => exact absurd ⟨h1, e⟩ h
     rw [if_pos (by omega), rbit_eq hv.byt (by omega) (by omega), bind_some', h2, bind_some', if_neg (by simp)]
    ·rw [if_neg (by omega), bind_some', if_neg (by simp)]
   have hR : RRS d n a p = if n - (a + j) < 1 + p then (0, 0, 1) else (bits .or .u64 (IntKind.u64.wrap ((j : Int) * 2 ^ p)) (numS d (a + j + 1) p), a + j + 1 + p, 0) := by
    unfold RRS
    rw [hk, if_neg (by omega)]
   refine .inr ⟨_, ?_, rfl⟩
   rw [hst, Lref18_ReadRice_k1, hR]
   simp only [eaj]
   rw [wi ((n : Int) - (a : Int)) (by omega), wi (_ - (j : Int)) (by omega), wi (1 + (p : Int)) (by omega)]
   by_cases h2 : n - (a + j) < 1 + p
   ·rw [if_pos (by omega), if_pos h2]
    rfl
   ·rw [if_neg (by omega), if_neg h2, chk_bind (by omega), wS (by omega), rnumber_eq d _ (a + j + 1) p hv.byt (by omega) (by omega) (by omega), bind_some', wA (by omega), wu (j : Int) (by omega), show min ((p : Int)).toNat 64 = p by omega]
    rfl) _ 0 ⟨0, rfl, by omega, by omega, fun i hi => by omega, rfl⟩
 exact h

/-! filters -/
def decS (d : List Int) (n p : Nat) : Nat → Nat → Int → List Int → List Int × Int
 | 0, a, _, out => if 8 ≤ n - a then ([], 2) else if numS d a (n - a) = 0 then (out, 0) else ([], 3)
 | c + 1, a, s, out => if (RRS d n a p).2.2 = 0 then (if IntKind.u64.wrap (s + (RRS d n a p).1) < s then ([], 5) else decS d n p c (RRS d n a p).2.1 (IntKind.u64.wrap (s + (RRS d n a p).1)) (out ++ [IntKind.u64.wrap (s + (RRS d n a p).1)])) else ([], (RRS d n a p).2.2)
theorem dec_loop (c : Int) (d : List Int) (p : Nat) (hb : Byt d) (hd : d.length ≤ 200000) (hc : c ≤ 4096) (hp : p ≤ 32) : ∀ (k i a : Nat) (s : Int) (out : List Int), c - (i : Int) = (k : Int) → a ≤ 8 * d.length → out.length ≤ i → runLoop (Lgolomb_Decode_s1 (c, d) (p : Int)) (s, (a : Int), (i : Int), out) = some (decS d (8 * d.length) p k a s out) := by
 have hv := VB_full hb
 have e8 : IntKind.i64.wrap (8 * (d.length : Int)) = ((8 * d.length : Nat) : Int) := by rw [wi _ (by omega)]; omega
 intro k
 induction k with
 | zero =>
  intro i a s out hk ha ho
  refine runLoop_exit ?_
  simp only [Lgolomb_Decode_s1, if_neg (show ¬ (i : Int) < c by omega), Lgolomb_Decode_k1, e8, decS]
  rw [wi _ (by omega), show ((8 * d.length : Nat) : Int) - (a : Int) = ((8 * d.length - a : Nat) : Int) by omega]
  by_cases h8 : 8 ≤ 8 * d.length - a
  ·rw [if_pos (by omega), if_pos h8]
  ·rw [if_neg (by omega), if_neg h8, Lbits_Read, valid_eq hv (by omega), bind_some', if_neg (by simp), if_neg (by simp only; omega), wi _ (by omega), if_neg (by simp only; omega), number_eq d _ a _ hb (by omega) (by omega) (by omega), bind_some', bind_some', if_neg (by simp)]
   by_cases h0 : numS d a (8 * d.length - a) = 0
   ·rw [if_neg (by simp [h0]), if_pos h0]
   ·rw [if_pos h0, if_neg h0]
 | succ k ih =>
  intro i a s out hk ha ho
  have hst : Lgolomb_Decode_s1 (c, d) (p : Int) (s, (a : Int), (i : Int), out) = (if (RRS d (8 * d.length) a p).2.2 = 0 then (if IntKind.u64.wrap (s + (RRS d (8 * d.length) a p).1) < s then some (.inr ([], 5)) else some (.inl (IntKind.u64.wrap (s + (RRS d (8 * d.length) a p).1), (((RRS d (8 * d.length) a p).2.1 : Nat) : Int), ((i + 1 : Nat) : Int), out ++ [IntKind.u64.wrap (s + (RRS d (8 * d.length) a p).1)]))) else some (.inr ([], (RRS d (8 * d.length) a p).2.2))) := by
   simp only [Lgolomb_Decode_s1, if_pos (show (i : Int) < c by omega), e8]
   rw [rr_prog d _ a p hv (by omega) ha hp, bind_some']
   by_cases h0 : (RRS d (8 * d.length) a p).2.2 = 0
   ·rw [if_neg (by simp [h0]), if_pos h0]
    simp only
    split
    ·rfl
    ·rw [chk_bind (by omega), wS (by omega)]
   ·rw [if_pos h0, if_neg h0]
  rw [decS]
  by_cases h0 : (RRS d (8 * d.length) a p).2.2 = 0
  ·rw [if_pos h0] at hst ⊢
   by_cases h1 : IntKind.u64.wrap (s + (RRS d (8 * d.length) a p).1) < s
   ·rw [if_pos h1] at hst ⊢
    exact runLoop_end hst
   ·rw [if_neg h1] at hst ⊢
    rw [runLoop_step hst]
    exact ih (i + 1) _ _ _ (by omega) (RRS_to h0 ha) (by simp; omega)
  ·rw [if_neg h0] at hst ⊢
   exact runLoop_end hst
theorem rdec_loop (c : Int) (d : List Int) (p : Nat) (hb : Byt d) (hd : d.length ≤ 200000) (hc : c ≤ 4096) (hp : p ≤ 32) : ∀ (k a : Nat) (s : Int) (out : List Int), c - (out.length : Int) = (k : Int) → a ≤ 8 * d.length → runLoop (Lref19_Decode_s1 (c, d) (p : Int)) ((a : Int), s, out) = some (decS d (8 * d.length) p k a s out) := by
 have hv := VB_full hb
 have e8 : IntKind.i64.wrap (8 * (d.length : Int)) = ((8 * d.length : Nat) : Int) := by rw [wi _ (by omega)]; omega
 intro k
 induction k with
 | zero =>
  intro a s out hk ha
  refine runLoop_exit ?_
  simp only [Lref19_Decode_s1, if_neg (show ¬ (out.length : Int) < c by omega), Lref19_Decode_k1, e8, decS]
  rw [wi _ (by omega), show ((8 * d.length : Nat) : Int) - (a : Int) = ((8 * d.length - a : Nat) : Int) by omega]
  by_cases h8 : 8 ≤ 8 * d.length - a
  ·rw [if_pos (by omega), if_pos h8]
  ·rw [if_neg (by omega), if_neg h8, Lref18_Read, rvalid_eq hv (by omega), bind_some', if_neg (by simp), if_neg (by simp only; omega), wi _ (by omega), if_neg (by simp only; omega), rnumber_eq d _ a _ hb (by omega) (by omega) (by omega), bind_some', bind_some']
   by_cases h0 : numS d a (8 * d.length - a) = 0
   ·rw [if_neg (by simp [h0]), if_pos h0]
   ·rw [if_pos h0, if_neg h0]
 | succ k ih =>
  intro a s out hk ha
  have hst : Lref19_Decode_s1 (c, d) (p : Int) ((a : Int), s, out) = (if (RRS d (8 * d.length) a p).2.2 = 0 then (if IntKind.u64.wrap (s + (RRS d (8 * d.length) a p).1) < s then some (.inr ([], 5)) else some (.inl ((((RRS d (8 * d.length) a p).2.1 : Nat) : Int), IntKind.u64.wrap (s + (RRS d (8 * d.length) a p).1), out ++ [IntKind.u64.wrap (s + (RRS d (8 * d.length) a p).1)]))) else some (.inr ([], (RRS d (8 * d.length) a p).2.2))) := by
   simp only [Lref19_Decode_s1, if_pos (show (out.length : Int) < c by omega), e8]
   rw [rr_ref d _ a p hv (by omega) ha hp, bind_some']
   by_cases h0 : (RRS d (8 * d.length) a p).2.2 = 0
   ·rw [if_neg (by simp [h0]), if_pos h0]
    simp only
    split
    ·rfl
    ·rw [chk_bind (by omega)]
   ·rw [if_pos h0, if_neg h0]
  rw [decS]
  by_cases h0 : (RRS d (8 * d.length) a p).2.2 = 0
  ·rw [if_pos h0] at hst ⊢
   by_cases h1 : IntKind.u64.wrap (s + (RRS d (8 * d.length) a p).1) < s
   ·rw [if_pos h1] at hst ⊢
    exact runLoop_end hst
   ·rw [if_neg h1] at hst ⊢
    rw [runLoop_step hst]
    exact ih _ _ _ (by simp; omega) (RRS_to h0 ha)
  ·rw [if_neg h0] at hst ⊢
   exact runLoop_end hst
/-- what a filter holds -/
def DR (f : Tapi_Filter) (p : Int) : List Int × Int := if 4096 < f.1 ∨ 200000 < (f.2.length : Int) then ([], 4) else if (f.1 < 0 ∨ p < 0) ∨ 32 < p then ([], 5) else decS f.2 (8 * f.2.length) p.toNat f.1.toNat 0 0 []
theorem decode_eq (f : Tapi_Filter) (p : Int) (hb : Byt f.2) : Lgolomb_Decode f p = some (DR f p) := by
 obtain ⟨c, d⟩ := f
 rw [Lgolomb_Decode, DR]
 simp only at hb ⊢
 by_cases h1 : 4096 < c ∨ 200000 < (d.length : Int)
 ·rw [if_pos h1, if_pos h1]
 ·rw [if_neg h1, if_neg h1]
  by_cases h2 : (c < 0 ∨ p < 0) ∨ 32 < p
  ·rw [if_pos h2, if_pos h2]
  ·rw [if_neg h2, if_neg h2, chk_bind (by omega)]
   obtain ⟨q, rfl⟩ : ∃ q : Nat, p = (q : Int) := ⟨p.toNat, by omega⟩
   exact dec_loop c d q hb (by omega) (by omega) (by omega) c.toNat 0 0 0 [] (by omega) (by omega) (by simp)
theorem rdecode_eq (f : Tapi_Filter) (p : Int) (hb : Byt f.2) : Lref19_Decode f p = some (DR f p) := by
 obtain ⟨c, d⟩ := f
 rw [Lref19_Decode, DR]
 simp only at hb ⊢
 by_cases h1 : 4096 < c ∨ 200000 < (d.length : Int)
 ·rw [if_pos h1, if_pos h1]
 ·rw [if_neg h1, if_neg h1]
  by_cases h2 : (c < 0 ∨ p < 0) ∨ 32 < p
  ·rw [if_pos h2, if_pos h2]
  ·rw [if_neg h2, if_neg h2]
   obtain ⟨q, rfl⟩ : ∃ q : Nat, p = (q : Int) := ⟨p.toNat, by omega⟩
   exact rdec_loop c d q hb (by omega) (by omega) (by omega) c.toNat 0 0 [] (by simp; omega) (by omega)
theorem decS_len (d : List Int) (n p : Nat) : ∀ (c a : Nat) (s : Int) (out : List Int), (decS d n p c a s out).1.length ≤ out.length + c
 | 0, a, s, out => by
  rw [decS]
  split
  ·simp
  ·split <;> simp
 | c + 1, a, s, out => by
  rw [decS]
  split
  ·split
   ·simp
   ·have := decS_len d n p c (RRS d n a p).2.1 (IntKind.u64.wrap (s + (RRS d n a p).1)) (out ++ [IntKind.u64.wrap (s + (RRS d n a p).1)])
    simp at this
    omega
  ·simp
theorem DR_len (f : Tapi_Filter) (p : Int) : (DR f p).1.length ≤ 4096 := by
 unfold DR
 split
 ·simp
 ·split
  ·simp
  ·have := decS_len f.2 (8 * f.2.length) p.toNat f.1.toNat 0 0 []
   simp at this
   omega
theorem golombDecodes (f : Tapi_Filter) (p : Int) (hb : ∀ b ∈ f.2, 0 ≤ b ∧ b ≤ 255) : Llaw19_GolombDecodes f p = some true := by
 rw [Llaw19_GolombDecodes, sane_eq, bind_some', if_neg (by simp)]
 by_cases h : 400 < (f.2.length : Int)
 ·rw [if_pos h]
 ·rw [if_neg h, decode_eq f p hb, bind_some', rdecode_eq f p hb, bind_some', if_pos rfl, same_list _ (by have := DR_len f p; omega)]
  simp
end Go.Lc
end
