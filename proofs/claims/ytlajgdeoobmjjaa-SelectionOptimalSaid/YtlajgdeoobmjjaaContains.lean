import Derived.Test.YtlajgdeoobmjjaaBest
namespace Go.Proofs.Ytlajgdeoobmjjaa
open Go.RowKit
set_option linter.unusedVariables false

def IdxPost (w : World) (zs : List Int) (x : Int) (e : Ending) (w' : World) : Prop := (∃ i : Int, e = .returned (.int .i64 i) ∧ (decide (0 ≤ i) = zs.contains x)) ∧ w = w'

set_option maxHeartbeats 1000000 in
theorem index_any (A : Option Addr) (n c : Nat) (zs : List Int) (x : Int) (w : World) (B : Nat) (hr : Rd w B A (I64 zs)) (hl : zs.length = n) (hn : n ≤ 1000000) :
    Calls Try.prog 39 #[.slice A n c, .int .i64 x] w (IdxPost w zs x) := by
  have HR := Lib.hid hr; clear hr
  have HL := Lib.hid hl; clear hl
  go_enter Try.func39, Try.ntmps39
  go_wp2
  go_loop [5, 8] (fun _ i => ∃ k : Nat, k ≤ n ∧ i = .int .i64 k ∧ Hid (∀ y ∈ zs.take k, x ≠ y)) (fun _ i => n - (intOf i).toNat)
  case atStart => exact ⟨0, Nat.zero_le _, rfl, by simp [Hid]⟩
  case round =>
    obtain ⟨k, hk, rfl, HO⟩ := hrel
    by_cases hlt : k < n
    · have hkl : k < zs.length := by rw [HL.out]; exact hlt
      obtain ⟨ad, rfl, hadb, hcell⟩ := HR.out.at_ (get_i64 hkl)
      have HM := Lib.hid (List.getElem_mem hkl)
      have HT := Lib.hid (List.take_succ_eq_append_getElem hkl)
      generalize zs[k] = z at *
      by_cases hx : x = z
      · have hd : (x == z) = true := by simp [hx]
        have HC := Lib.hid (show zs.contains x = true by simp [hx, HM.out])
        clear hx
        go_wp2
        go_ret
        exact ⟨⟨_, rfl, by rw [HC.out]; simp⟩, rfl⟩
      · have hd : (x == z) = false := by simp [hx]
        have HN := Lib.hid (show ∀ y ∈ zs.take (k + 1), x ≠ y by
          rw [HT.out]; intro y hy
          rcases List.mem_append.1 hy with h | h
          · exact HO.out y h
          · simp at h; rw [h]; exact hx)
        clear hx
        go_wp2
        go_round
        case rel => exact ⟨k + 1, by omega, by go_num, HN.out⟩
        case measure => simp [intOf]; omega
    · have HC := Lib.hid (show zs.contains x = false by
        have e : zs.take k = zs := List.take_of_length_le (by rw [HL.out]; omega)
        have := HO.out
        rw [e] at this
        simp only [List.contains_eq_mem, decide_eq_false_iff_not]
        intro h; exact this x h rfl)
      go_wp2
      go_ret
      exact ⟨⟨_, rfl, by rw [HC.out]; rfl⟩, rfl⟩

set_option maxHeartbeats 1000000 in
theorem contains_any (A : Option Addr) (n c : Nat) (zs : List Int) (x : Int) (w : World) (B : Nat) (hr : Rd w B A (I64 zs)) (hl : zs.length = n) (hn : n ≤ 1000000) :
    Calls Try.prog 33 #[.slice A n c, .int .i64 x] w fun e w' => e = .returned (.bool (zs.contains x)) ∧ w = w' := by
  have HI := Lib.hid (index_any A n c zs x w B hr hl hn); clear hr hl
  go_enter Try.func33, Try.ntmps33
  go_wp2_with fail
  refine HI.out.mono ?_
  rintro e w1 ⟨⟨i, rfl, hi⟩, rfl⟩
  have HII := Lib.hid hi; clear hi
  go_wp2
  go_ret
  exact ⟨ret_bool HII.out, rfl⟩

end Go.Proofs.Ytlajgdeoobmjjaa
