import Derived.Test.YtipochhfofhofaaDoorLcG1
import Derived.Test.YtipochhfofhofaaDoorAvP3
import Derived.IntWalk
section
namespace Go.Lc
open Go.RowKit
open Go.Av
set_option maxRecDepth 100000
set_option linter.unusedSimpArgs false
set_option linter.unusedVariables false
abbrev Tapi_Filter := Int × (List Int)
noncomputable def Lref01_Join_k1 (p8 : (List Int)) : Option (List Int) :=
 some (p8)
noncomputable def Lref01_Join_s1 (a0 : (List (List Int))) : (Int × (List Int)) → Option ((Int × (List Int)) ⊕ ((List Int)))
 | (p7, p8) => (if p7 < (a0.length : Int) then (idx (a0) (p7)).bind fun x11 => (Lref01_joined p8 x11).bind fun y12 => some (.inl (IntKind.i64.wrap (p7 + 1), y12)) else (Lref01_Join_k1 p8).map Sum.inr)
noncomputable def Lref01_Join (a0 : (List (List Int))) : Option ((List Int)) :=
 runLoop (Lref01_Join_s1 a0) (0, ([] : (List Int)))
end Go.Lc
end
section
namespace Go.Lc
open Go.RowKit
open Go.Av
set_option maxRecDepth 100000
set_option linter.unusedSimpArgs false
set_option linter.unusedVariables false
abbrev Tapi_FilterChain := (List (Arr 32)) × (List (Arr 32))
noncomputable def Lfilterchain_Sound (a0 : Tapi_FilterChain) : Option (Bool) :=
 some ((decide ((a0.1.length : Int) = (a0.2.length : Int)) && decide ((a0.1.length : Int) ≤ 4096)))

noncomputable def Lslices_Concat_of__byte_byte_k2 (p16 : (List Int)) : Option (List Int) :=
 some (p16)
noncomputable def Lslices_Concat_of__byte_byte_s2 (a0 : (List (List Int))) : (Int × (List Int)) → Option ((Int × (List Int)) ⊕ ((List Int)))
 | (p15, p16) => (if p15 < (a0.length : Int) then (idx (a0) (p15)).bind fun x19 => (chk (p16.length + x19.length ≤ 140737488355328)).bind fun _ => some (.inl (IntKind.i64.wrap (p15 + 1), p16 ++ x19)) else (Lslices_Concat_of__byte_byte_k2 p16).map Sum.inr)
noncomputable def Lslices_Concat_of__byte_byte_k1 (p5 : Int) (a0 : (List (List Int))) : Option (List Int) :=
 (chk (0 ≤ p5 ∧ p5 ≤ 70368744177664)).bind fun _ => runLoop (Lslices_Concat_of__byte_byte_s2 a0) (0, ([] : (List Int)))
noncomputable def Lslices_Concat_of__byte_byte_k3 (p5 : Int) (x21 : (List Int)) (p6 : Int) : Option ((Int × Int) ⊕ ((List Int))) :=
 some (.inl (IntKind.i64.wrap (p5 + (x21.length : Int)), IntKind.i64.wrap (p6 + 1)))
noncomputable def Lslices_Concat_of__byte_byte_s1 (a0 : (List (List Int))) : (Int × Int) → Option ((Int × Int) ⊕ ((List Int)))
 | (p5, p6) => (if p6 < (a0.length : Int) then (idx (a0) (p6)).bind fun x21 => (if IntKind.i64.wrap (p5 + (x21.length : Int)) < 0 then ((none : Option Unit)).bind fun _ => Lslices_Concat_of__byte_byte_k3 p5 x21 p6 else Lslices_Concat_of__byte_byte_k3 p5 x21 p6) else (Lslices_Concat_of__byte_byte_k1 p5 a0).map Sum.inr)
noncomputable def Lslices_Concat_of__byte_byte (a0 : (List (List Int))) : Option ((List Int)) :=
 runLoop (Lslices_Concat_of__byte_byte_s1 a0) (0, 0)
noncomputable def Lfilter_Header (a0 : (Arr 32)) (a1 : (Arr 32)) : Option ((Arr 32)) :=
 (Lslices_Concat_of__byte_byte [a0.l, a1.l]).bind fun y1 => (Lsha_Double y1).bind fun y2 => some (y2)
noncomputable def Lfilterchain_Batch_k1 (p11 : (List (Arr 32))) : Option (List (Arr 32)) :=
 some (p11)
noncomputable def Lfilterchain_Batch_s1 (a1 : (List (Arr 32))) : (Int × (Arr 32) × (List (Arr 32))) → Option ((Int × (Arr 32) × (List (Arr 32))) ⊕ ((List (Arr 32))))
 | (p9, p10, p11) => (if p9 < (a1.length : Int) then (idx (a1) (p9)).bind fun x15 => (Lfilter_Header x15 p10).bind fun y16 => (chk (p11.length + 1 ≤ 4398046511104)).bind fun _ => some (.inl (IntKind.i64.wrap (p9 + 1), y16, p11 ++ [y16])) else (Lfilterchain_Batch_k1 p11).map Sum.inr)
noncomputable def Lfilterchain_Batch (a0 : (Arr 32)) (a1 : (List (Arr 32))) : Option ((List (Arr 32))) :=
 runLoop (Lfilterchain_Batch_s1 a1) (0, a0, [])
noncomputable def Lfilterchain_join_k1 (p8 : (List (Arr 32))) : Option (List (Arr 32)) :=
 some (p8)
noncomputable def Lfilterchain_join_s1 (a0 : (List (List (Arr 32)))) : (Int × (List (Arr 32))) → Option ((Int × (List (Arr 32))) ⊕ ((List (Arr 32))))
 | (p7, p8) => (if p7 < (a0.length : Int) then (idx (a0) (p7)).bind fun x11 => (chk (p8.length + x11.length ≤ 4398046511104)).bind fun _ => some (.inl (IntKind.i64.wrap (p7 + 1), p8 ++ x11)) else (Lfilterchain_join_k1 p8).map Sum.inr)
noncomputable def Lfilterchain_join (a0 : (List (List (Arr 32)))) : Option ((List (Arr 32))) :=
 runLoop (Lfilterchain_join_s1 a0) (0, [])
noncomputable def Lfilterchain_prev (a0 : Tapi_FilterChain) (a1 : Int) : Option ((Arr 32)) :=
 (if a1 = 0 then some (zA 32) else (idx (a0.2) (IntKind.i64.wrap (a1 - 1))).bind fun x1 => some (x1))
noncomputable def Lfilterchain_Extend (a0 : Tapi_FilterChain) (a1 : (List (Arr 32))) (a2 : (List (Arr 32))) : Option (Tapi_FilterChain × Int) :=
 (Lfilterchain_Sound a0).bind fun y1 => (if ¬ (y1 = true) then some (((([] : (List (Arr 32))), ([] : (List (Arr 32)))), 6)) else (if ¬ ((a1.length : Int) = (a2.length : Int)) then some (((([] : (List (Arr 32))), ([] : (List (Arr 32)))), 8)) else (if 4096 < IntKind.i64.wrap ((a0.2.length : Int) + (a1.length : Int)) then some (((([] : (List (Arr 32))), ([] : (List (Arr 32)))), 4)) else (Lfilterchain_join [a0.1, a1]).bind fun y2 => (Lfilterchain_prev a0 (a0.2.length : Int)).bind fun y3 => (Lfilterchain_Batch y3 a2).bind fun y4 => (Lfilterchain_join [a0.2, y4]).bind fun y5 => some (((y2, y5), 0)))))
noncomputable def Lfilterchain_differ_of_api_Hash_k1 : Option Int :=
 some ((-1))
noncomputable def Lfilterchain_differ_of_api_Hash_s1 (a0 : (List (Arr 32))) (a1 : (List (Arr 32))) : Int → Option ((Int) ⊕ (Int))
 | p8 => (if p8 < (if (a0.length : Int) < (a1.length : Int) then (a1.length : Int) else (a0.length : Int)) then ((if ((a0.length : Int) ≤ p8 ∨ (a1.length : Int) ≤ p8) then some (false) else (idx (a0) (p8)).bind fun x12 => (idx (a1) (p8)).bind fun x13 => some (!(decide (x12 = x13))))).bind fun z14 => (if (((a0.length : Int) ≤ p8 ∨ (a1.length : Int) ≤ p8) ∨ z14 = true) then some (.inr (p8)) else some (.inl (IntKind.i64.wrap (p8 + 1)))) else (Lfilterchain_differ_of_api_Hash_k1).map Sum.inr)
noncomputable def Lfilterchain_differ_of_api_Hash (a0 : (List (Arr 32))) (a1 : (List (Arr 32))) : Option (Int) :=
 runLoop (Lfilterchain_differ_of_api_Hash_s1 a0 a1) 0
noncomputable def Lfilterchain_Differ (a0 : (List (Arr 32))) (a1 : (List (Arr 32))) : Option (Int) :=
 (Lfilterchain_differ_of_api_Hash a0 a1).bind fun y1 => some (y1)
noncomputable def Llaw21_sane : Option (Bool) :=
 (Lfilterchain_Extend (([] : (List (Arr 32))), ([] : (List (Arr 32)))) [(zA 32).put 0 1] [(zA 32).put 0 2]).bind fun y1 => (Lfilterchain_Differ [(zA 32).put 0 1, (zA 32).put 0 2] [(zA 32).put 0 1]).bind fun y2 => ((if ((y2 = 1 ∧ y1.2 = 0) ∧ (y1.1.2.length : Int) = 1) then ((y1.1.2)[0]?).bind fun x3 => (Lfilter_Header ((zA 32).put 0 2) (zA 32)).bind fun y4 => some (decide (x3 = y4)) else some (false))).bind fun z5 => some ((((decide (y2 = 1) && decide (y1.2 = 0)) && decide ((y1.1.2.length : Int) = 1)) && z5))
noncomputable def Llaw21_kept (a0 : Tapi_FilterChain) : Option (Bool) :=
 some ((decide ((a0.1.length : Int) ≤ 40) && decide ((a0.2.length : Int) ≤ 40)))
noncomputable def Lfilter_Encode (a0 : Tapi_Filter) : Option ((List Int) × Int) :=
 (if ((a0.1 < 0 ∨ 4096 < a0.1) ∨ 200000 < (a0.2.length : Int)) then some ((([] : (List Int)), 4)) else (Lcodec_AppendSize ([] : (List Int)) (IntKind.u64.wrap (a0.1))).bind fun y1 => (Lcodec_AppendBytes y1 a0.2).bind fun y2 => some ((y2, 0)))
noncomputable def Lfilter_Hash (a0 : Tapi_Filter) : Option ((Arr 32)) :=
 (Lfilter_Encode a0).bind fun y1 => (if ¬ (y1.2 = 0) then some (zA 32) else (Lsha_Double y1.1).bind fun y2 => some (y2))
noncomputable def Lfilterchain_Verify (a0 : Tapi_FilterChain) (a1 : Int) (a2 : Tapi_Filter) : Option (Int) :=
 (Lfilterchain_Sound a0).bind fun y1 => (if ¬ (y1 = true) then some (6) else (if (a1 < 0 ∨ (a0.2.length : Int) ≤ a1) then some (5) else (Lfilter_Encode a2).bind fun y2 => (if ¬ (y2.2 = 0) then some (y2.2) else (Lfilter_Hash a2).bind fun y3 => (Lfilterchain_prev a0 a1).bind fun y4 => (Lfilter_Header y3 y4).bind fun y5 => (idx (a0.2) (a1)).bind fun x6 => (if ¬ (y5 = x6) then some (200) else some (0)))))
noncomputable def Lref21_Sound (a0 : Tapi_FilterChain) : Option (Bool) :=
 some ((decide ((a0.1.length : Int) = (a0.2.length : Int)) && decide ((a0.1.length : Int) ≤ 4096)))
noncomputable def Lref20_Header (a0 : (Arr 32)) (a1 : (Arr 32)) : Option ((Arr 32)) :=
 (Lref01_Join [a0.l, a1.l]).bind fun y1 => (Lref03_Double y1).bind fun y2 => some (y2)
noncomputable def Lref20_Encode (a0 : Tapi_Filter) : Option ((List Int) × Int) :=
 (if ((a0.1 < 0 ∨ 4096 < a0.1) ∨ 200000 < (a0.2.length : Int)) then some ((([] : (List Int)), 4)) else (Lref01_AppendSize ([] : (List Int)) (IntKind.u64.wrap (a0.1))).bind fun y1 => (Lref01_AppendBytes y1 a0.2).bind fun y2 => some ((y2, 0)))
noncomputable def Lref20_Hash (a0 : Tapi_Filter) : Option ((Arr 32)) :=
 (Lref20_Encode a0).bind fun y1 => (if ¬ (y1.2 = 0) then some (zA 32) else (Lref03_Double y1.1).bind fun y2 => some (y2))
noncomputable def Lref21_Verify_k1 (a2 : Tapi_Filter) (a0 : Tapi_FilterChain) (a1 : Int) (p4 : (Arr 32)) : Option Int :=
 (Lref20_Hash a2).bind fun y5 => (Lref20_Header y5 p4).bind fun y6 => (idx (a0.2) (a1)).bind fun x7 => (if ¬ (y6 = x7) then some (200) else some (0))
noncomputable def Lref21_Verify (a0 : Tapi_FilterChain) (a1 : Int) (a2 : Tapi_Filter) : Option (Int) :=
 (Lref21_Sound a0).bind fun y1 => (if ¬ (y1 = true) then some (6) else (if (a1 < 0 ∨ (a0.2.length : Int) ≤ a1) then some (5) else (Lref20_Encode a2).bind fun y2 => (if ¬ (y2.2 = 0) then some (y2.2) else (if 0 < a1 then (idx (a0.2) (IntKind.i64.wrap (a1 - 1))).bind fun x8 => Lref21_Verify_k1 a2 a0 a1 x8 else Lref21_Verify_k1 a2 a0 a1 (zA 32)))))
noncomputable def Llaw21_FilterchainVerifies (a0 : Tapi_FilterChain) (a1 : Int) (a2 : Tapi_Filter) : Option (Bool) :=
 (Llaw21_sane).bind fun y1 => (if ¬ (y1 = true) then some (false) else (Llaw21_kept a0).bind fun y2 => (if (¬ (y2 = true) ∨ 400 < (a2.2.length : Int)) then some (true) else (Lfilterchain_Verify a0 a1 a2).bind fun y3 => (Lref21_Verify a0 a1 a2).bind fun y4 => some (decide (y3 = y4))))
def OeS_A32_I_u8 (x : (List (Arr 32))) : Prop := x.length ≤ maxLen ∧ ∀ a ∈ x, OeA32_I_u8 a
def Oeapi_FilterChain (x : Tapi_FilterChain) : Prop := OeS_A32_I_u8 x.1 ∧ OeS_A32_I_u8 x.2
def Oeapi_Filter (x : Tapi_Filter) : Prop := (-9223372036854775808 ≤ x.1 ∧ x.1 ≤ 9223372036854775807) ∧ OeS_I_u8 x.2
end Go.Lc
end
section
/- Ranges of numbers of a type. -/
namespace Go.Av
theorem wfi_i64 {x : Int} (h : (Lit.int .i64 x).wf = true) : -9223372036854775808 ≤ x ∧ x ≤ 9223372036854775807 := by simpa [Lit.wf, IntKind.has, IntKind.min, IntKind.max, IntKind.signed, IntKind.bits] using h
theorem wfi_u8 {x : Int} (h : (Lit.int .u8 x).wf = true) : 0 ≤ x ∧ x ≤ 255 := by simpa [Lit.wf, IntKind.has, IntKind.min, IntKind.max, IntKind.signed, IntKind.bits] using h
end Go.Av
end
section
/- Plain facts about steps that may fail, loops and numbers. -/
namespace Go.Lc
open Go.RowKit
open Go.Av
set_option linter.unusedVariables false

/-! loops -/
theorem runLoop_step {σ ρ : Type} {step : σ → Option (σ ⊕ ρ)} {s s' : σ} (h : step s = some (.inl s')) : runLoop step s = runLoop step s' := by rw [runLoop_eq, h]
theorem runLoop_exit {σ ρ : Type} {step : σ → Option (σ ⊕ ρ)} {s : σ} {x : Option ρ} (h : step s = x.map .inr) : runLoop step s = x := by
 rw [runLoop_eq, h]
 cases x <;> rfl
/-- n steps, and what is then done -/
theorem runLoop_to {σ ρ : Type} {step : σ → Option (σ ⊕ ρ)} (enc : Nat → σ) (n : Nat) {x : Option ρ} (h : ∀ i, i < n → step (enc i) = some (.inl (enc (i + 1)))) (he : step (enc n) = x.map .inr) : runLoop step (enc 0) = x := by
 have key : ∀ k, k ≤ n → runLoop step (enc (n - k)) = x := by
  intro k
  induction k with
  | zero => intro _; exact runLoop_exit he
  | succ k ih =>
   intro hk
   rw [runLoop_step (h (n - (k + 1)) (by omega)), show n - (k + 1) + 1 = n - k by omega]
   exact ih (by omega)
 have := key n (Nat.le_refl _)
 rwa [Nat.sub_self] at this
/-! steps that do not fail -/
def Tot {α : Type} (x : Option α) (Q : α → Prop) : Prop := ∃ a, x = some a ∧ Q a
section
variable {α β : Type} {x : Option α} {f : α → Option β} {P : α → Prop} {Q : β → Prop}
theorem Tot.bind (h : Tot x P) (k : ∀ a, P a → Tot (f a) Q) : Tot (x.bind f) Q := by
 obtain ⟨a, rfl, ha⟩ := h
 exact k a ha
theorem Tot.mono {P' : α → Prop} (h : Tot x P) (k : ∀ a, P a → P' a) : Tot x P' := by
 obtain ⟨a, h1, ha⟩ := h
 exact ⟨a, h1, k a ha⟩
theorem Tot.inr {ρ σ : Type} {x : Option ρ} {Q : ρ → Prop} (h : Tot x Q) : ∃ r, (x.map Sum.inr : Option (σ ⊕ ρ)) = some (.inr r) ∧ Q r := by
 obtain ⟨a, rfl, ha⟩ := h
 exact ⟨a, rfl, ha⟩
end
theorem bind_some' {α β : Type} (a : α) (f : α → Option β) : (some a).bind f = f a := rfl
theorem chk_bind {p : Prop} [Decidable p] {α : Type} {f : Unit → Option α} (h : p) : (chk p).bind f = f () := by rw [chk_pos h]; rfl
theorem idx_get {α : Type} {l : List α} {i : Nat} (h : i < l.length) : idx l (i : Int) = some l[i] := by simp [idx, h]
theorem idx_bind {α β : Type} {l : List α} {i : Nat} {f : α → Option β} (h : i < l.length) : (idx l (i : Int)).bind f = f l[i] := by rw [idx_get h]; rfl
theorem inA_nat {n i : Nat} (h : i < n) : inA n (i : Int) = some i := by simp [inA, h]
theorem inA_bind {β : Type} {n i : Nat} {f : Nat → Option β} (h : i < n) : (inA n (i : Int)).bind f = f i := by rw [inA_nat h]; rfl
/-! numbers -/
theorem wi (n : Int) (h : -9223372036854775808 ≤ n ∧ n ≤ 9223372036854775807) : IntKind.i64.wrap n = n := IntWalk.i64_in n h
theorem wi_succ {i n : Nat} (h : i < n) (hn : n ≤ 9223372036854775807) : IntKind.i64.wrap ((i : Int) + 1) = ((i + 1 : Nat) : Int) := by rw [wi _ (by omega)]; omega
theorem wu (n : Int) (h : 0 ≤ n ∧ n ≤ 18446744073709551615) : IntKind.u64.wrap n = n := IntWalk.u64_in n h

/-! lists -/
theorem fill_step {α : Type} (f : Nat → α) (z : α) {i k : Nat} (h : i < k) : (((List.range i).map f) ++ List.replicate (k - i) z).set i (f i) = ((List.range (i + 1)).map f) ++ List.replicate (k - (i + 1)) z := by
 rw [List.set_append_right _ _ (by simp)]
 simp only [List.length_map, List.length_range, Nat.sub_self]
 rw [show k - i = (k - (i + 1)) + 1 by omega, List.replicate_succ, List.set_cons_zero, List.range_succ, List.map_append]
 simp
theorem fill_len {α : Type} (f : Nat → α) (z : α) {i k : Nat} (h : i ≤ k) : (((List.range i).map f) ++ List.replicate (k - i) z).length = k := by simp; omega
end Go.Lc
end
section
/- Encodings: what the codec and its reference compute. -/
namespace Go.Lc
open Go.RowKit
open Go.Av
set_option linter.unusedVariables false

/-! numbers, lowest byte first -/
def lowB (n : Int) (k : Nat) : List Int := (List.range k).map fun i => IntKind.u8.wrap (n.fdiv (2 ^ (8 * i)))
@[simp] theorem lowB_len (n : Int) (k : Nat) : (lowB n k).length = k := by simp [lowB]
theorem low_pow {i : Nat} (h : i < 8) : min (IntKind.i64.wrap (8 * (i : Int))).toNat 64 = 8 * i := by
 rw [wi _ (by omega)]
 omega
theorem lowest_eq (n : Int) (k : Nat) (hk : k ≤ 8) : Lcodec_lowest n k = some (lowB n k) := by
 unfold Lcodec_lowest
 rw [chk_bind (by omega)]
 have := runLoop_to (step := Lcodec_lowest_s1 k n) (fun i => ((i : Int), ((List.range i).map fun i => IntKind.u8.wrap (n.fdiv (2 ^ (8 * i)))) ++ List.replicate (k - i) 0)) k (x := some (lowB n k)) (fun i hi => by
  simp only [Lcodec_lowest_s1]
  rw [if_pos (by omega), chk_bind (by rw [wi _ (by omega)]; omega), fill_len _ _ (by omega), inA_bind hi, low_pow (by omega), fill_step (fun i => IntKind.u8.wrap (n.fdiv (2 ^ (8 * i)))) 0 hi, wi_succ hi (by omega)]) (by
  simp only [Lcodec_lowest_s1]
  rw [if_neg (by omega)]
  simp [Lcodec_lowest_k1, lowB])
 simpa using this
theorem little_eq (n : Int) (k : Nat) (hk : k ≤ 8) : Lref01_little n k = some (lowB n k) := by
 unfold Lref01_little
 rw [chk_bind (by omega)]
 have := runLoop_to (step := Lref01_little_s1 k n) (fun i => ((i : Int), ((List.range i).map fun i => IntKind.u8.wrap (n.fdiv (2 ^ (8 * i)))) ++ List.replicate (k - i) 0)) k (x := some (lowB n k)) (fun i hi => by
  simp only [Lref01_little_s1]
  rw [if_pos (by simp; omega), chk_bind (by rw [wi _ (by omega)]; omega), fill_len _ _ (by omega), inA_bind hi, low_pow (by omega), fill_step (fun i => IntKind.u8.wrap (n.fdiv (2 ^ (8 * i)))) 0 hi, wi_succ hi (by omega)]) (by
  simp only [Lref01_little_s1]
  rw [if_neg (by simp)]
  simp [Lref01_little_k1, lowB])
 simpa using this
theorem extend_eq {a b : List Int} (h : a.length + b.length ≤ 140737488355328) : Lcodec_extend a b = some (a ++ b) := by
 unfold Lcodec_extend
 rw [wi _ (by omega), chk_bind (by omega), chk_bind (by omega), chk_bind (by omega)]
theorem joined_eq {a b : List Int} (h : a.length + b.length ≤ 140737488355328) : Lref01_joined a b = some (a ++ b) := by
 unfold Lref01_joined
 rw [wi _ (by omega), chk_bind (by omega), chk_bind (by omega), chk_bind (by omega)]
section
variable {b : List Int} {n : Int}
theorem u32_eq (h : b.length ≤ 140737488355000) : Lcodec_AppendU32 b n = some (b ++ lowB (IntKind.u64.wrap n) 4) := by
 unfold Lcodec_AppendU32
 have this : Lcodec_lowest (IntKind.u64.wrap n) 4 = some (lowB (IntKind.u64.wrap n) 4) := lowest_eq _ 4 (by omega)
 rw [this, bind_some', extend_eq (by simp; omega)]
 rfl
theorem u64_eq (h : b.length ≤ 140737488355000) : Lcodec_AppendU64 b n = some (b ++ lowB n 8) := by
 unfold Lcodec_AppendU64
 have this : Lcodec_lowest n 8 = some (lowB n 8) := lowest_eq _ 8 (by omega)
 rw [this, bind_some', extend_eq (by simp; omega)]
 rfl
theorem u16_eq (h : b.length ≤ 140737488355000) : Lcodec_AppendU16 b n = some (b ++ lowB (IntKind.u64.wrap n) 2) := by
 unfold Lcodec_AppendU16
 have this : Lcodec_lowest (IntKind.u64.wrap n) 2 = some (lowB (IntKind.u64.wrap n) 2) := lowest_eq _ 2 (by omega)
 rw [this, bind_some', extend_eq (by simp; omega)]
 rfl
/-- a size -/
def sizeB (n : Int) : List Int := if n < 253 then lowB n 1 else if n < 65536 then 253 :: lowB n 2 else if n < 4294967296 then 254 :: lowB n 4 else 255 :: lowB n 8
theorem sizeB_len (n : Int) : (sizeB n).length ≤ 9 := by
 unfold sizeB
 split
 ·simp
 ·split
  ·simp
  ·split <;> simp
theorem size_eq (h0 : 0 ≤ n ∧ n ≤ 18446744073709551615) (h : b.length ≤ 140737488354900) : Lcodec_AppendSize b n = some (b ++ sizeB n) := by
 unfold Lcodec_AppendSize sizeB
 split
 ·rw [extend_eq (by simp; omega)]
  simp [lowB]
 ·split
  ·rw [extend_eq (by simp; omega), bind_some', u16_eq (by simp; omega), IntWalk.u16_in _ (by omega), wu _ (by omega)]
   simp
  ·split
   ·rw [extend_eq (by simp; omega), bind_some', u32_eq (by simp; omega), IntWalk.u32_in _ (by omega), wu _ (by omega)]
    simp
   ·rw [extend_eq (by simp; omega), bind_some', u64_eq (by simp; omega)]
    simp
theorem rsize_eq (h0 : 0 ≤ n ∧ n ≤ 18446744073709551615) (h : b.length ≤ 140737488354900) : Lref01_AppendSize b n = some (b ++ sizeB n) := by
 have l1 : Lref01_little n 1 = some (lowB n 1) := little_eq n 1 (by omega)
 have l2 : Lref01_little n 2 = some (lowB n 2) := little_eq n 2 (by omega)
 have l4 : Lref01_little n 4 = some (lowB n 4) := little_eq n 4 (by omega)
 have l8 : Lref01_little n 8 = some (lowB n 8) := little_eq n 8 (by omega)
 unfold Lref01_AppendSize sizeB
 split
 ·rw [l1, bind_some', joined_eq (by simp; omega)]
  rfl
 ·split
  ·rw [l2, bind_some', joined_eq (by simp), bind_some', joined_eq (by simp; omega)]
   rfl
  ·split
   ·rw [l4, bind_some', joined_eq (by simp), bind_some', joined_eq (by simp; omega)]
    rfl
   ·rw [l8, bind_some', joined_eq (by simp), bind_some', joined_eq (by simp; omega)]
    rfl
end
/-- bytes behind their size -/
def bytesB (s : List Int) : List Int := sizeB s.length ++ s
theorem bytesB_len (s : List Int) : (bytesB s).length ≤ 9 + s.length := by
 have := sizeB_len s.length
 simp [bytesB]
 omega
theorem len_u64 {n : Nat} (h : n ≤ 140737488355328) : IntKind.u64.wrap (n : Int) = n := wu _ (by omega)
theorem abytes_eq {b s : List Int} (h : b.length + s.length ≤ 140737488354900) : Lcodec_AppendBytes b s = some (b ++ bytesB s) := by
 unfold Lcodec_AppendBytes
 have := sizeB_len s.length
 rw [len_u64 (by omega), size_eq (by omega) (by omega), bind_some', extend_eq (by simp; omega)]
 simp [bytesB]
theorem rbytes_eq {b s : List Int} (h : b.length + s.length ≤ 140737488354900) : Lref01_AppendBytes b s = some (b ++ bytesB s) := by
 unfold Lref01_AppendBytes
 have := sizeB_len s.length
 rw [len_u64 (by omega), rsize_eq (by omega) (by omega), bind_some', joined_eq (by simp; omega)]
 simp [bytesB]
theorem hash_eq {b : List Int} {a : Arr 32} (h : b.length ≤ 140737488355000) : Lcodec_AppendHash b a = some (b ++ a.l) := by
 unfold Lcodec_AppendHash
 rw [extend_eq (by rw [a.hl]; omega)]
 rfl
def pointB (o : Tapi_OutPoint) : List Int := o.1.l ++ lowB (IntKind.u64.wrap o.2) 4
@[simp] theorem pointB_len (o : Tapi_OutPoint) : (pointB o).length = 36 := by simp [pointB, o.1.hl]
theorem point_eq (o : Tapi_OutPoint) : Ltx_Point o = some (pointB o) := by
 unfold Ltx_Point
 rw [hash_eq (by simp), bind_some', u32_eq (by simp [o.1.hl])]
 rfl
end Go.Lc
end
section
/- Transactions: encodings, limits, weights; the program's and the reference's are the same. -/
namespace Go.Lc
open Go.RowKit
open Go.Av
set_option linter.unusedVariables false

def inB (x : Tapi_Input) : List Int := pointB x.1 ++ lowB (IntKind.u64.wrap x.2.1) 4
@[simp] theorem inB_len (x : Tapi_Input) : (inB x).length = 40 := by simp [inB]
def outB (o : Tapi_Output) : List Int := lowB (IntKind.u64.wrap o.1) 8 ++ bytesB o.2
section
variable {t : Tapi_Tx} {w : Bool}
end
section
variable {t : Tapi_Tx} {w : Bool}
/-! the reference -/
/-! limits -/
end
section
end
end Go.Lc
end
section
/- What is drawn from lists of numbers is always something; law 34, weights. -/
namespace Go.Lc
open Go.RowKit
open Go.Av
set_option linter.unusedVariables false

/-- what a loop's step leads to -/
def Nx {σ ρ : Type} (I : Nat → σ → Prop) (Q : ρ → Prop) (n : Nat) : σ ⊕ ρ → Prop
 | .inl s => ∃ j, j < n ∧ I j s
 | .inr r => Q r
theorem Tot.out {σ ρ : Type} {I : Nat → σ → Prop} {Q : ρ → Prop} {n : Nat} {x : Option ρ} (h : Tot x Q) : Tot (x.map .inr) (Nx I Q n) := by
 obtain ⟨r, rfl, h⟩ := h
 exact ⟨_, rfl, h⟩
/-! remainders -/
/-! decks -/
/-! law 34: fees and weights -/
end Go.Lc
end
section
/- Transactions alone and with their coins: the program's tests and the reference's are the same; law 34, plans. -/
namespace Go.Lc
open Go.RowKit
open Go.Av
set_option linter.unusedVariables false

/-! sums -/
/-! points already seen -/
def seen (l : List Tapi_OutPoint) : List (Tapi_OutPoint × Bool) := l.foldl (fun m p => mput p true m) []
/-! one transaction alone -/
section
variable {t : Tapi_Tx}
end
/-! coins -/
section
variable {l : List Tapi_Coin}
end
/-! plans -/
end Go.Lc
end
