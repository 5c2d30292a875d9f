import Derived.Test.YtlajgdeoobmjjaaMill
namespace Go.Proofs.Ytlajgdeoobmjjaa
open Go.RowKit

theorem el23 : Elem Try.prog 23 2 (.int .i64 0) 1 8 := Elem.mk' Try.underlying23 (by kernel_rfl) rfl (by decide) (by decide)
theorem el22 : Elem Try.prog 22 3 (.int .i64 0) 1 8 := Elem.mk' Try.underlying22 (by kernel_rfl) rfl (by decide) (by decide)
theorem el30 : Elem Try.prog 30 5 (.int .u8 0) 1 1 := Elem.mk' Try.underlying30 (by kernel_rfl) rfl (by decide) (by decide)

theorem nextV_bd (r : List Int) (m : Int) (h : 1 ≤ m) : 0 ≤ nextV r m ∧ nextV r m < m := by
  cases r with
  | nil => simp [nextV]; omega
  | cons z t => simp only [nextV]; exact ⟨Int.emod_nonneg _ (by omega), Int.emod_lt_of_pos _ (by omega)⟩

def madeVals (l : List Int) (k : Nat) : List Int := (List.range k).map (fun j => 1 + nextV (l.tail.drop j) 30)
def madeK (l : List Int) (n : Int) : Nat := (nextV l (n + 1)).toNat
def madeT (l : List Int) (n : Int) : Int := 1 + nextV (l.tail.drop (madeK l n)) 60

theorem madeVals_succ (l : List Int) (k : Nat) : madeVals l (k + 1) = madeVals l k ++ [1 + nextV (l.tail.drop k) 30] := by
  simp [madeVals, List.range_succ]
theorem madeVals_len (l : List Int) (k : Nat) : (madeVals l k).length = k := by simp [madeVals]

theorem DeckAt.grown {w w' : World} {b B : Nat} {rest : List Int} {row : Option Nat} (h : DeckAt w b B rest) (hg : w.grownBy w' row) (hB : B ≤ w.heap.size) (hr : ∀ g, row = some g → B ≤ g) (hne : row ≠ some b) : DeckAt w' b B rest := by
  obtain ⟨A, n, c, a, zs, hblk, hl, ha, hm, hr', hrd, hB'⟩ := h
  exact ⟨A, n, c, a, zs, hblk.grown hg (fun e => hne e.symm), hl, ha, hm, hr', hrd.grown hg hB hr, hB'⟩
theorem DeckAt.blk {w : World} {b B : Nat} {rest : List Int} (h : DeckAt w b B rest) : ∃ cs, Blk w b 69 cs := by
  obtain ⟨A, n, c, a, zs, hblk, _⟩ := h
  exact ⟨_, hblk⟩

def MadePost (l : List Int) (n : Int) (w : World) (e : Ending) (w' : World) : Prop :=
  ∃ v, e = .returned (.tuple #[v, .int .i64 (madeT l n)]) ∧ w'.ownsRow w.heap.size 2 1 v (madeK l n) ((madeVals l (madeK l n)).map (Value.int .i64)) ∧ Below w.heap.size w w'

set_option maxHeartbeats 400000 in
theorem made_any (A : Option Addr) (n c : Nat) (zs : List Int) (m : Int) (w : World) (hr : Rd w w.heap.size A (zs.map (Value.int .i64))) (hl : zs.length = n) (hm : n ≤ maxLen)
    (h1 : 0 ≤ m) (h2 : m ≤ 1000) :
    Calls Try.prog 9 #[.slice A n c, .int .i64 m] w (MadePost zs m w) := by
  have HR := Lib.hid hr; clear hr
  have HL := Lib.hid hl; clear hl
  have hk0 := nextV_bd zs (m + 1) (by omega)
  go_enter Try.func9, Try.ntmps9
  go_wp2_with fail
  refine (new_any A n c zs w HR.out HL.out hm).mono ?_
  rintro e w1 ⟨rfl, hd, hb1, hs1⟩
  have HD := Lib.hid hd; clear hd
  go_wp2_with fail
  refine (next_any w.heap.size w.heap.size zs (m + 1) w1 HD.out (by omega) (by omega)).mono ?_
  rintro e w2 ⟨rfl, hd2, hg2⟩
  have HD2 := Lib.hid hd2; clear hd2
  have hb2 : Below w.heap.size w w2 := hb1.trans (below_of_only hg2 (by omega) (by rintro g ⟨⟩; exact Nat.le_refl _))
  have hs2 : w.heap.size < w2.heap.size := by have := hg2.size; omega
  clear hg2 HD hb1 hs1
  obtain ⟨K, hK⟩ : ∃ K : Nat, nextV zs (m + 1) = K := ⟨(nextV zs (m + 1)).toNat, by omega⟩
  have hKm : K ≤ 1000 := by omega
  have HK := Lib.hid (show madeK zs m = K by unfold madeK; omega)
  rw [hK]
  clear hK hk0
  go_wp2_with fail
  go_loopw [7, 8] (fun v i wr => ∃ j : Nat, j ≤ K ∧ i = .int .i64 ((K - j : Nat) : Int) ∧ wr.ownsRow w.heap.size 2 1 v j ((madeVals zs j).map (Value.int .i64)) ∧ DeckAt wr w.heap.size w.heap.size (zs.tail.drop j) ∧ Below w.heap.size w wr ∧ w.heap.size < wr.heap.size) (fun _ i _ => (intOf i).toNat)
  case atStart => exact ⟨0, Nat.zero_le _, rfl, World.ownsRow_nil _ _ _ _, by simpa using HD2.out, hb2, hs2⟩
  case round =>
    obtain ⟨j, hj, rfl, hown, hd, hb, hs⟩ := hrel
    have HO := Lib.hid hown; clear hown
    have HD := Lib.hid hd; clear hd
    clear HD2 hb2 hs2
    by_cases hlt : j < K
    · have hx := nextV_bd (zs.tail.drop j) 30 (by omega)
      go_wp2_with fail
      refine (next_any w.heap.size w.heap.size _ 30 wr HD.out (by omega) (by omega)).mono ?_
      rintro e w3 ⟨rfl, hd3, hg3⟩
      have HD3 := Lib.hid hd3; clear hd3
      obtain ⟨A', n', c', a', zs', hblk, hrest⟩ := HD.out
      have hown3 := Lib.hid (HO.out.kept hg3 (Or.inr (own_blk_ne HO.out hblk (by decide))))
      have HB := Lib.hid hblk; clear hblk hrest
      have hs3 : w.heap.size < w3.heap.size := by have := hg3.size; omega
      have hb3 : Below w.heap.size w w3 := hb.trans (below_of_only hg3 (by omega) (by rintro g ⟨⟩; exact Nat.le_refl _))
      generalize hxv : nextV (List.drop j zs.tail) 30 = x at *
      have HX := Lib.hid hxv; clear hxv
      go_wp2_with (at_builtin; refine wpList_push _ _ rfl (.tmp 19) (.tmp 23) 23 rfl el23 w.heap.size _ j _ rfl hown3.out rfl rfl (one_int _ _) (by omega) (by omega) ?_; intro v4 w4 hown4 hg4 hat4; have HO4 := Lib.hid hown4; clear hown4; have HG4 := Lib.hid hg4; clear hg4; have HA4 := Lib.hid hat4; clear hat4)
      go_roundw
      case rel =>
        refine ⟨j + 1, by omega, by go_num, ?_, ?_, ?_, ?_⟩
        · rw [madeVals_succ, HX.out, List.map_append]; exact HO4.out
        · have h3 := HD3.out
          rw [List.tail_drop] at h3
          obtain ⟨cs, hblk3⟩ := h3.blk
          exact h3.grown HG4.out (by omega) (fun g hg => (hown3.out.lt g hg).1) (own_blk_ne hown3.out hblk3 (by decide))
        · exact hb3.grown HG4.out (by omega) (fun g hg => (hown3.out.lt g hg).1)
        · have := HG4.out.size; omega
      case measure => simp [intOf]; omega
    · obtain rfl : j = K := by omega
      have hx := nextV_bd (zs.tail.drop j) 60 (by omega)
      go_wp2_with fail
      refine (next_any w.heap.size w.heap.size _ 60 wr HD.out (by omega) (by omega)).mono ?_
      rintro e w3 ⟨rfl, hd3, hg3⟩
      obtain ⟨cs, hblk⟩ := HD.out.blk
      have hown3 := Lib.hid (HO.out.kept hg3 (Or.inr (own_blk_ne HO.out hblk (by decide))))
      have hb3 : Below w.heap.size w w3 := hb.trans (below_of_only hg3 (by omega) (by rintro g ⟨⟩; exact Nat.le_refl _))
      clear hd3 hblk
      generalize hxv : nextV (List.drop j zs.tail) 60 = x at *
      have HX := Lib.hid (show madeT zs m = 1 + x by rw [madeT, HK.out, hxv])
      clear hxv
      go_wp2
      go_ret2
      refine ⟨u7, ?_, ?_, hb3⟩
      · rw [HX.out]; rfl
      · rw [HK.out]; exact hown3.out
end Go.Proofs.Ytlajgdeoobmjjaa
