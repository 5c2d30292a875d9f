import Derived.Test.YtlajgdeoobmjjaaPlain2
namespace Go.Proofs.Ytlajgdeoobmjjaa
open Go.RowKit
set_option linter.unusedVariables false

theorem ofInt_i64 (a : Nat) (ha : a < 9223372036854775808) : (BitVec.ofInt 64 (a : Int)).toNat = a := by
  rw [BitVec.ofInt_natCast, BitVec.toNat_ofNat]; exact Nat.mod_eq_of_lt (by omega)
theorem i64_and_one (a : Nat) (ha : a < 9223372036854775808) : bits .and .i64 (a : Int) 1 = ((a % 2 : Nat) : Int) := by
  show IntKind.i64.wrap ((BitVec.ofInt 64 (a : Int) &&& BitVec.ofInt 64 ((1 : Nat) : Int)).toNat : Int) = _
  rw [BitVec.toNat_and, ofInt_i64 a ha, ofInt_i64 1 (by omega), IntKind.wrap_i64, Nat.and_one_is_mod]
  omega
theorem bit_test (k j : Nat) (hk : k ≤ 65536) : bits .and .i64 ((k : Int) / 2 ^ j) 1 = ((k / 2 ^ j % 2 : Nat) : Int) := by
  have e : ((k : Int) / 2 ^ j) = ((k / 2 ^ j : Nat) : Int) := by simp
  have : k / 2 ^ j ≤ k := Nat.div_le_self _ _
  rw [e, i64_and_one _ (by omega)]

set_option maxHeartbeats 1000000 in
theorem lleast_any (A : Option Addr) (n c : Nat) (zs : List Int) (t : Int) (w : World) (B : Nat) (hr : Rd w B A (I64 zs)) (hl : zs.length = n) (hv : Vals zs) :
    Calls Try.prog 16 #[.slice A n c, .int .i64 t] w fun e w' => e = .returned (.int .i64 (lbest zs t (2 ^ n))) ∧ w = w' := by
  have hn : n ≤ 16 := by rw [← hl]; exact hv.1
  have HL := Lib.hid hl; clear hl
  have HV := Lib.hid hv.2; clear hv
  have HR := Lib.hid hr; clear hr
  obtain ⟨N, hN, hN2⟩ : ∃ N : Nat, 2 ^ n = N ∧ N ≤ 65536 := ⟨_, rfl, by have := Nat.pow_le_pow_right (show 0 < 2 by omega) hn; omega⟩
  have hsh : wrap64 ((2 : Int) ^ n) = (N : Int) := by
    have e : ((2 : Int) ^ n) = ((2 ^ n : Nat) : Int) := by simp
    rw [e, hN]; exact IntWalk.wrap64_in _ (by omega)
  rw [hN]
  have HN := Lib.hid hN; clear hN
  go_enter Try.func16, Try.ntmps16
  go_wp2
  go_loop [5, 6, 7, 8, 19] (fun b s _ _ _ => ∃ k : Nat, k ≤ N ∧ s = .int .i64 k ∧ b = .int .i64 (lbest zs t k)) (fun _ s _ _ _ => N - (intOf s).toNat)
  case atStart => exact ⟨0, Nat.zero_le _, rfl, rfl⟩
  case round =>
    obtain ⟨k, hk, rfl, rfl⟩ := hrel
    by_cases hlt : k < N
    · have hdk : decide ((k : Int) < (N : Int)) = true := by simp; omega
      go_wp2
      go_loop [7, 8, 19] (fun a _ i => ∃ j : Nat, j ≤ n ∧ i = .int .i64 j ∧ a = .int .i64 (bsum (zs.take j) k)) (fun _ _ i => n - (intOf i).toNat)
      case atStart => exact ⟨0, Nat.zero_le _, rfl, by simp [bsum]⟩
      case round =>
        obtain ⟨j, hj, rfl, rfl⟩ := hrel
        have hbd := bsum_bd zs HV.out k j
        by_cases hjt : j < n
        · have hjl : j < zs.length := by rw [HL.out]; exact hjt
          obtain ⟨ad, rfl, hadb, hcell⟩ := HR.out.at_ (get_i64 hjl)
          have hg := HV.out zs[j] (List.getElem_mem hjl)
          have HS := Lib.hid (bsum_take zs j k hjl)
          unfold Good at hg
          generalize zs[j] = z at *
          have HBT := Lib.hid (bit_test k j (by omega))
          by_cases hbit : k / 2 ^ j % 2 = 1
          · have hbt : (bits BinOp.and IntKind.i64 ((k : Int) / 2 ^ j) 1 == 1) = true := by rw [HBT.out, hbit]; rfl
            rw [if_pos hbit] at HS
            clear hbit
            go_wp2
            go_round
            case rel => exact ⟨j + 1, by omega, by go_num, by rw [HS.out]⟩
            case measure => simp [intOf]; omega
          · have hbt : (bits BinOp.and IntKind.i64 ((k : Int) / 2 ^ j) 1 == 1) = false := by rw [HBT.out, beq_eq_false_iff_ne]; omega
            rw [if_neg hbit] at HS
            clear hbit
            go_wp2
            go_round
            case rel => exact ⟨j + 1, by omega, by go_num, by rw [HS.out]; go_num⟩
            case measure => simp [intOf]; omega
        · have hte : zs.take j = zs := List.take_of_length_le (by rw [HL.out]; omega)
          rw [hte] at hbd ⊢
          clear hte
          have HLS := Lib.hid (show lbest zs t (k + 1) = if t ≤ bsum zs k ∧ (lbest zs t k < 0 ∨ bsum zs k < lbest zs t k) then bsum zs k else lbest zs t k from rfl)
          by_cases h1 : t ≤ bsum zs k
          · by_cases h2 : lbest zs t k < 0
            · have HE := Lib.hid (HLS.out.trans (if_pos ⟨h1, .inl h2⟩))
              generalize bsum zs k = bs at *
              generalize lbest zs t k = lb at *
              go_wp2
              go_round
              case rel => exact ⟨k + 1, by omega, by go_num, by rw [HE.out]⟩
              case measure => simp [intOf]; omega
            · by_cases h3 : bsum zs k < lbest zs t k
              · have HE := Lib.hid (HLS.out.trans (if_pos ⟨h1, .inr h3⟩))
                generalize bsum zs k = bs at *
                generalize lbest zs t k = lb at *
                go_wp2
                go_round
                case rel => exact ⟨k + 1, by omega, by go_num, by rw [HE.out]⟩
                case measure => simp [intOf]; omega
              · have HE := Lib.hid (HLS.out.trans (if_neg (fun h => by rcases h.2 with h | h; exact h2 h; exact h3 h)))
                generalize bsum zs k = bs at *
                generalize lbest zs t k = lb at *
                go_wp2
                go_round
                case rel => exact ⟨k + 1, by omega, by go_num, by rw [HE.out]⟩
                case measure => simp [intOf]; omega
          · have HE := Lib.hid (HLS.out.trans (if_neg (fun h => h1 h.1)))
            generalize bsum zs k = bs at *
            generalize lbest zs t k = lb at *
            go_wp2
            go_round
            case rel => exact ⟨k + 1, by omega, by go_num, by rw [HE.out]⟩
            case measure => simp [intOf]; omega
    · have e : k = N := by omega
      subst e
      go_wp2
      go_ret
      exact ⟨rfl, rfl⟩
end Go.Proofs.Ytlajgdeoobmjjaa
