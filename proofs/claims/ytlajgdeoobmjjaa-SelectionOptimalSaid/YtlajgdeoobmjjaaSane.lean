import Derived.Test.YtlajgdeoobmjjaaSame
namespace Go.Proofs.Ytlajgdeoobmjjaa
open Go.RowKit
theorem sane1 : bestV [5, 3, 2] 5 = ⟨[0], 5, [1, 2, 1, 1, 2, 2, 2], 0⟩ := by rfl
theorem sane2 : bestV [4, 4] 9 = ⟨[], 0, [], 320⟩ := by rfl

set_option maxHeartbeats 1000000 in
theorem sane_any (w : World) : Calls Try.prog 8 #[] w fun e w' => e = .returned (.bool true) ∧ Below w.heap.size w w' := by
  go_enter Try.func8, Try.ntmps8
  go_wp2_with fail
  refine (best_any _ 3 3 [5, 3, 2] 5 _ ((Rd.lit w 2 _).more (by simp)) rfl (Nat.le_refl _) (by decide)).mono ?_
  rw [sane1]
  rintro e w1 ⟨pv, tv, rfl, hpv, htv, hb1⟩
  simp only [World.size_alloc] at hpv htv hb1
  have hz1 : w.heap.size + 1 ≤ w1.heap.size := by have := hb1.size; simpa using this
  obtain ⟨pA, pc, rfl, hpc⟩ := slice_of_own hpv
  obtain ⟨tA, tc, rfl, htc⟩ := slice_of_own htv
  have HP := Lib.hid (Rd.of_own hpv)
  have HT := Lib.hid (Rd.of_own htv)
  have HB1 := Lib.hid (show Below w.heap.size w w1 from ((Below.refl _ w).alloc (Nat.le_refl _) _).trans (hb1.mono (by omega)))
  clear hpv htv hb1
  simp only [List.length_cons, List.length_nil] at *
  go_wp2_with fail
  refine (best_any _ 2 2 [4, 4] 9 _ (by simpa using (Rd.lit (w1.alloc (.cells #[.slice pA 1 pc, .int .i64 5] 29)) 2 #[.int .i64 4, .int .i64 4])) rfl (Nat.le_refl _) (by decide)).mono ?_
  rw [sane2]
  rintro e w2 ⟨pv2, tv2, rfl, hpv2, htv2, hb2⟩
  have hb12 : Below w1.heap.size w1 w2 := (((Below.refl _ w1).alloc (Nat.le_refl _) _).alloc (by simp) _).trans (hb2.mono (by simp; omega))
  have hS : Blk w2 w1.heap.size 29 #[.slice pA 1 pc, .int .i64 5] := ((Blk.new w1 29 _).alloc _).below hb2 (by simp; omega)
  obtain ⟨p2, pc2, rfl, _⟩ := slice_of_own hpv2
  obtain ⟨t2, tc2, rfl, _⟩ := slice_of_own htv2
  clear hpv2 htv2
  have hz2 : w1.heap.size + 2 ≤ w2.heap.size := by have := hb2.size; simpa using this
  obtain ⟨ad, rfl, hadb, hcell⟩ := (HP.out.below hb12 (Nat.le_refl _)).at_ (k := 0) (u := .int .i64 0) rfl
  have hcell0 : w2.cell? ad = some (.int .i64 0) := by simpa [Addr.add] using hcell
  have HSTR := Lib.hid (fun o => run_str (P := Try.prog) (w2.alloc o) 30 9 5 Try.underlying30 Try.underlying5 Try.underlying9 tA 7 tc [1, 2, 1, 1, 2, 2, 2] w1.heap.size ((HT.out.below hb12 (Nat.le_refl _)).alloc (by omega) o) rfl)
  have c0 := (hS.alloc (.cells #[.slice p2 0 pc2, .int .i64 0] 29)).cell 0
  have c1 := (hS.alloc (.cells #[.slice p2 0 pc2, .int .i64 0] 29)).cell 1
  have c2 : (w2.alloc (.cells #[.slice p2 0 pc2, .int .i64 0] 29)).cell? ad = some (.int .i64 0) := by rw [World.cell?_alloc_lt _ _ _ (by omega)]; exact hcell0
  have hstr := HSTR.out (.cells #[.slice p2 0 pc2, .int .i64 0] 29)
  simp at c0 c1
  have HB2 := Lib.hid (HB1.out.trans (hb12.mono (by omega)))
  have hq : (strOfNums [1, 2, 1, 1, 2, 2, 2]) = ⟨#[1, 2, 1, 1, 2, 2, 2]⟩ := rfl
  rw [hq] at hstr
  clear hb2 hS hb12 hcell hcell0 hq
  go_wp2
  go_ret
  exact ⟨rfl, HB2.out.alloc (by have := HB2.out.size; omega) _⟩
end Go.Proofs.Ytlajgdeoobmjjaa
