import Derived.Test.YtlajgdeoobmjjaaProg
import Derived.Test.YtlajgdeoobmjjaaMem
namespace Go.Proofs.Ytlajgdeoobmjjaa
open Go.RowKit

theorem tm_pos (v n : Int) (h1 : 1 ≤ n) (h : 0 ≤ v.tmod n) : v.tmod n = v % n := by
  have hb2 : v.tmod n < n := Int.tmod_lt_of_pos v (by omega)
  have e := Int.tmod_add_mul_tdiv v n
  have := Int.emod_emod_of_dvd v (Int.dvd_refl n)
  rw [show v % n = (v.tmod n + n * v.tdiv n) % n by rw [e], Int.add_mul_emod_self_left, Int.emod_eq_of_lt h hb2]
theorem tm_neg (v n : Int) (h1 : 1 ≤ n) (h : v.tmod n < 0) : v.tmod n + n = v % n := by
  have hb1 : -n < v.tmod n := by have := Int.lt_tmod_of_pos v (b := n) (by omega); omega
  have e := Int.tmod_add_mul_tdiv v n
  rw [show v % n = (v.tmod n + n + n * (v.tdiv n - 1)) % n by rw [Int.mul_sub, Int.mul_one]; congr 1; omega, Int.add_mul_emod_self_left, Int.emod_eq_of_lt (by omega) (by omega)]

set_option maxHeartbeats 400000 in
theorem mod_any (v n : Int) (w : World) (h1 : 1 ≤ n) (h2 : n ≤ 4611686018427387904) :
    Calls Try.prog 13 #[.int .i64 v, .int .i64 n] w fun e w' => e = .returned (.int .i64 (v % n)) ∧ w = w' := by
  have hz : (n == 0) = false := by simp; omega
  have hb1 : -n < v.tmod n := by have := Int.lt_tmod_of_pos v (b := n) (by omega); omega
  have hb2 : v.tmod n < n := Int.tmod_lt_of_pos v (by omega)
  by_cases hs : v.tmod n < 0
  · have HE := Lib.hid (tm_neg v n h1 hs)
    go_enter Try.func13, Try.ntmps13
    go_wp2
    go_ret
    exact ⟨ret_int HE.out, rfl⟩
  · have HE := Lib.hid (tm_pos v n h1 (by omega))
    go_enter Try.func13, Try.ntmps13
    go_wp2
    go_ret
    exact ⟨ret_int HE.out, rfl⟩

set_option maxHeartbeats 400000 in
theorem left_any (b : Nat) (A : Option Addr) (n c a : Nat) (w : World) (hb : Blk w b 69 #[.slice A n c, .int .i64 a]) :
    Calls Try.prog 35 #[.pointer (some ⟨b, 0, none⟩)] w fun e w' => e = .returned (.bool (decide (a < n))) ∧ ∃ k, w' = w.drewN k := by
  have c0 := hb.cell 0
  have c1 := hb.cell 1
  simp at c0 c1
  go_enter Try.func35, Try.ntmps35
  go_wp2
  go_quiet (fail)
  go_wp2
  go_ret
  exact ⟨rfl, _, rfl⟩

def DeckAt (w : World) (b B : Nat) (rest : List Int) : Prop :=
  ∃ (A : Option Addr) (n c a : Nat) (zs : List Int), Blk w b 69 #[.slice A n c, .int .i64 a] ∧ zs.length = n ∧ a ≤ n ∧ n ≤ maxLen ∧ rest = zs.drop a ∧ Rd w B A (zs.map (Value.int .i64)) ∧ B ≤ b

def nextV (rest : List Int) (m : Int) : Int := match rest with | [] => 0 | z :: _ => z % m

set_option maxHeartbeats 400000 in
theorem next_any (b B : Nat) (rest : List Int) (m : Int) (w : World) (hd : DeckAt w b B rest) (h1 : 1 ≤ m) (h2 : m ≤ 4611686018427387904) :
    Calls Try.prog 20 #[.pointer (some ⟨b, 0, none⟩), .int .i64 m] w fun e w' => e = .returned (.int .i64 (nextV rest m)) ∧ DeckAt w' b B rest.tail ∧ w.grownBy w' (some b) := by
  obtain ⟨A, n, c, a, zs, hblk, hl, ha, hm, hr, hrd, hB⟩ := hd
  unfold maxLen at hm
  by_cases hlt : a < n
  · have hal : a < zs.length := by omega
    obtain ⟨ad, rfl, hadb, hcell⟩ := hrd.at_ (k := a) (u := .int .i64 zs[a]) (by simp [hal])
    have HR := Lib.hid hr; clear hr
    have HL := Lib.hid hl; clear hl
    have HRD := Lib.hid hrd; clear hrd
    have HBL := Lib.hid hblk; clear hblk
    generalize hzz : zs[a] = z at hcell
    have HZ := Lib.hid hzz; clear hzz
    have c0 := HBL.out.cell 0
    have c1 := HBL.out.cell 1
    have f1 := HBL.out.frozen 1
    simp at c0 c1
    have hdec : decide (a < n) = true := by simpa using hlt
    go_enter Try.func20, Try.ntmps20
    go_wp2_with (go_at_call 35; refine (left_any b _ n c a _ HBL.out).mono ?_; rintro e w' ⟨rfl, k, rfl⟩)
    have hne : ad.block ≠ b := by omega
    have c0' : ((w.drewN k).setCell ⟨b, 1, none⟩ (.int .i64 ((a : Int) + 1))).cell? ⟨b, 0, none⟩ = some (.slice (some ad) n c) := by
      have := (HBL.out.drewN k).set_ 1 (.int .i64 ((a : Int) + 1)) |>.cell 0
      simpa using this
    have c1' : ((w.drewN k).setCell ⟨b, 1, none⟩ (.int .i64 ((a : Int) + 1))).cell? ⟨b, 1, none⟩ = some (.int .i64 ((a : Int) + 1)) := by
      have := (HBL.out.drewN k).set_ 1 (.int .i64 ((a : Int) + 1)) |>.cell 1
      simpa using this
    have c2' : ((w.drewN k).setCell ⟨b, 1, none⟩ (.int .i64 ((a : Int) + 1))).cell? (ad.add a) = some (.int .i64 z) := by
      rw [World.cell?_setCell_other _ _ _ _ (by intro e; apply hne; rw [← block_of_add ad a, ← e])]
      exact hcell
    have HB2 := Lib.hid ((HBL.out.drewN k).set_ 1 (.int .i64 ((a : Int) + 1)))
    have HG := Lib.hid (only_setCell (p := ⟨b, 1, none⟩) (only_drewN (only_refl w (some b)) k) (.inl rfl) (.int .i64 ((a : Int) + 1)))
    have HR2 := Lib.hid ((HRD.out.drewN k).setCell (p := ⟨b, 1, none⟩) hB (.int .i64 ((a : Int) + 1)))
    clear c0 c1 f1 hcell
    generalize (w.drewN k).setCell ⟨b, 1, none⟩ (.int .i64 ((a : Int) + 1)) = w2 at *
    go_quiet ((go_at_call 13; exact quiet_left (mod_any _ _ _ h1 h2)))
    go_wp2
    go_ret
    refine ⟨?_, ⟨some ad, n, c, a + 1, zs, ?_, HL.out, by omega, hm, ?_, HR2.out.drewN _, hB⟩, only_drewN HG.out _⟩
    · have e : rest = z :: zs.drop (a + 1) := by rw [HR.out, ← HZ.out]; exact List.drop_eq_getElem_cons hal
      rw [e]; rfl
    · have := HB2.out; simp at this; exact this.drewN _
    · rw [HR.out, List.tail_drop]
  · have hna : a = n := by omega
    subst hna
    have e : rest = [] := by rw [hr]; exact List.drop_of_length_le (by omega)
    subst e
    have HR := Lib.hid hr; clear hr
    have HL := Lib.hid hl; clear hl
    have HRD := Lib.hid hrd; clear hrd
    have HBL := Lib.hid hblk; clear hblk
    have hdec : decide (a < a) = false := by simp
    go_enter Try.func20, Try.ntmps20
    go_wp2_with (go_at_call 35; refine (left_any b _ a c a _ HBL.out).mono ?_; rintro e w' ⟨rfl, k, rfl⟩)
    go_ret
    exact ⟨rfl, ⟨A, a, c, a, zs, HBL.out.drewN _, HL.out, by omega, hm, HR.out, HRD.out.drewN _, hB⟩, only_drewN (only_refl w _) _⟩

set_option maxHeartbeats 400000 in
theorem new_any (A : Option Addr) (n c : Nat) (zs : List Int) (w : World) (hr : Rd w w.heap.size A (zs.map (Value.int .i64))) (hl : zs.length = n) (hm : n ≤ maxLen) :
    Calls Try.prog 19 #[.slice A n c] w fun e w' => e = .returned (.pointer (some ⟨w.heap.size, 0, none⟩)) ∧ DeckAt w' w.heap.size w.heap.size zs ∧ Below w.heap.size w w' ∧ w.heap.size < w'.heap.size := by
  have HR := Lib.hid hr; clear hr
  have HL := Lib.hid hl; clear hl
  go_enter Try.func19, Try.ntmps19
  go_wp2
  go_ret
  refine ⟨rfl, ⟨A, n, c, 0, zs, Blk.new _ _ _, HL.out, by omega, hm, rfl, HR.out.alloc (Nat.le_refl _) _, Nat.le_refl _⟩, (Below.refl _ _).alloc (Nat.le_refl _) _, by simp⟩
end Go.Proofs.Ytlajgdeoobmjjaa
