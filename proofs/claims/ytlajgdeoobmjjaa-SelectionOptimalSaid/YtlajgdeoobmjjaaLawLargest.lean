import Derived.Test.YtlajgdeoobmjjaaPlain3
namespace Go.Proofs.Ytlajgdeoobmjjaa
open Go.RowKit
set_option linter.unusedVariables false

def SelBox (W : World) (g : Nat) (A : Option Addr) (c : Nat) (R : LargR) : Prop := Blk W g 29 #[.slice A R.places.length c, .int .i64 R.sum] ∧ Rd W g A (I64 R.places)
theorem SelBox.below {W W' : World} {g C : Nat} {A : Option Addr} {c : Nat} {R : LargR} (h : SelBox W g A c R) (hb : Below C W W') (hg : g < C) : SelBox W' g A c R :=
  ⟨h.1.below hb hg, h.2.below hb (by omega)⟩
theorem SelBox.alloc {W : World} {g : Nat} {A : Option Addr} {c : Nat} {R : LargR} (h : SelBox W g A c R) (o : Obj) : SelBox (W.alloc o) g A c R :=
  ⟨h.1.alloc o, h.2.alloc (Nat.le_of_lt h.1.lt) o⟩
theorem selbox_new {W : World} {base : Nat} {A : Option Addr} {c : Nat} {R : LargR} (h : W.ownsRow base 3 1 (.slice A R.places.length c) R.places.length (I64 R.places)) :
    SelBox (W.alloc (.cells #[.slice A R.places.length c, .int .i64 R.sum] 29)) W.heap.size A c R :=
  ⟨Blk.new _ _ _, (Rd.of_own h).alloc (Nat.le_refl _) _⟩

set_option maxRecDepth 100000 in
set_option maxHeartbeats 2000000 in
theorem selectionLargest_any (A0 A1 : Option Addr) (n0 c0 n1 c1 : Nat) (ls rs : List Int) (t2 : Int) (w : World) (hr0 : Rd w w.heap.size A0 (I64 ls)) (hl0 : ls.length = n0) (hm0 : n0 ≤ maxLen)
    (hr1 : Rd w w.heap.size A1 (I64 rs)) (hl1 : rs.length = n1) (hm1 : n1 ≤ maxLen) :
    Calls Try.prog 6 #[.slice A0 n0 c0, .slice A1 n1 c1, .int .i64 t2] w fun e w' => e = .returned (.bool true) ∧ Below w.heap.size w w' := by
  have HR0 := Lib.hid hr0; clear hr0
  have HL0 := Lib.hid hl0; clear hl0
  have HR1 := Lib.hid hr1; clear hr1
  have HL1 := Lib.hid hl1; clear hl1
  by_cases h20 : 20 < n1
  · go_enter Try.func6, Try.ntmps6
    go_wp2_with fail
    refine (sane_any w).mono ?_
    rintro e w1 ⟨rfl, hb1⟩
    go_wp2
    go_ret
    exact ⟨rfl, hb1⟩
  · have hd20 : decide ((20 : Int) < (n1 : Int)) = false := by simp; omega
    go_enter Try.func6, Try.ntmps6
    go_wp2_with fail
    refine (sane_any w).mono ?_
    rintro e w1 ⟨rfl, hb1⟩
    have hz1 := hb1.size
    go_wp2_with fail
    refine (made_any A0 n0 c0 ls 12 w1 ((HR0.out.below hb1 (Nat.le_refl _)).more hz1) HL0.out hm0 (by omega) (by omega)).mono ?_
    rintro e w2 ⟨v, rfl, hv, hb2⟩
    have hz2 := hb2.size
    have hk := (nextV_bd ls (12 + 1) (by omega))
    obtain ⟨vA, vc, rfl, hvc⟩ := slice_of_own hv
    have HV := Lib.hid (Rd.of_own hv)
    have HVL := Lib.hid (madeVals_len ls (madeK ls 12))
    have hkk : madeK ls 12 ≤ 12 := by unfold madeK; omega
    have HB2 := Lib.hid (hb1.trans (hb2.mono (by omega)))
    have HR2 := Lib.hid (HR1.out.below HB2.out (Nat.le_refl _))
    generalize madeT ls 12 = t1 at *
    generalize madeVals ls (madeK ls 12) = vs at *
    generalize madeK ls 12 = vn at *
    clear hv hb1 hb2 hk
    have hlen1 := larg_len vs t1
    have hlen2 := larg_len rs t2
    have HA1 := Lib.hid (fun (W : World) (h : Rd W W.heap.size vA (I64 vs)) => largest_any vA vn vc vs t1 W h HVL.out (by unfold maxLen; omega))
    have HA2 := Lib.hid (fun (W : World) (h : Rd W W.heap.size vA (I64 vs)) => rlargest_any vA vn vc vs t1 W h HVL.out (by unfold maxLen; omega))
    have HA3 := Lib.hid (fun (W : World) (h : Rd W W.heap.size A1 (I64 rs)) => largest_any A1 n1 c1 rs t2 W h HL1.out hm1)
    have HA4 := Lib.hid (fun (W : World) (h : Rd W W.heap.size A1 (I64 rs)) => rlargest_any A1 n1 c1 rs t2 W h HL1.out hm1)
    rw [← larg_eq] at HA2 HA4
    generalize largV vs t1 = R at *
    generalize largV rs t2 = Q at *
    go_wp2_with fail
    refine (HA1.out w2 HV.out).mono ?_
    rintro e w3 ⟨pv, rfl, hpv, hb3⟩
    have hz3 := hb3.size
    obtain ⟨aA, ac, rfl, _⟩ := slice_of_own hpv
    have HX3 := Lib.hid (selbox_new hpv)
    have HV3 := Lib.hid (HV.out.below hb3 (Nat.le_refl _))
    have HR3 := Lib.hid (HR2.out.below hb3 (by omega))
    have HB3 := Lib.hid (HB2.out.trans (hb3.mono (by omega)))
    clear hpv hb3
    go_wp2_with fail
    refine (HA2.out _ ((HV3.out.alloc (by omega) _).more (by simp; omega))).mono ?_
    rintro e w4 ⟨pv, rfl, hpv, hb4⟩
    have hz4 : w3.heap.size + 1 ≤ w4.heap.size := by have := hb4.size; simpa using this
    have hb34 : Below w3.heap.size w3 w4 := ((Below.refl _ w3).alloc (Nat.le_refl _) _).trans (hb4.mono (by simp))
    obtain ⟨bA, bc, rfl, _⟩ := slice_of_own hpv
    have HX4 := Lib.hid ((HX3.out.below hb4 (by simp)))
    have HY4 := Lib.hid (selbox_new hpv)
    have HR4 := Lib.hid (HR3.out.below hb34 (by omega))
    have HB4 := Lib.hid (HB3.out.trans (hb34.mono (by omega)))
    clear hpv hb4 hb34 HX3
    go_wp2_with fail
    refine (HA3.out _ ((HR4.out.alloc (by omega) _).more (by simp; omega))).mono ?_
    rintro e w5 ⟨pv, rfl, hpv, hb5⟩
    have hz5 : w4.heap.size + 1 ≤ w5.heap.size := by have := hb5.size; simpa using this
    have hb45 : Below w4.heap.size w4 w5 := ((Below.refl _ w4).alloc (Nat.le_refl _) _).trans (hb5.mono (by simp))
    obtain ⟨cA, cc, rfl, _⟩ := slice_of_own hpv
    have HX5 := Lib.hid (HX4.out.below hb45 (by omega))
    have HY5 := Lib.hid ((HY4.out.below hb5 (by simp)))
    have HZ5 := Lib.hid (selbox_new hpv)
    have HR5 := Lib.hid (HR4.out.below hb45 (by omega))
    have HB5 := Lib.hid (HB4.out.trans (hb45.mono (by omega)))
    clear hpv hb5 hb45 HX4 HY4
    go_wp2_with fail
    refine (HA4.out _ ((HR5.out.alloc (by omega) _).more (by simp; omega))).mono ?_
    rintro e w6 ⟨pv, rfl, hpv, hb6⟩
    have hz6 : w5.heap.size + 1 ≤ w6.heap.size := by have := hb6.size; simpa using this
    have hb56 : Below w5.heap.size w5 w6 := ((Below.refl _ w5).alloc (Nat.le_refl _) _).trans (hb6.mono (by simp))
    obtain ⟨dA, dc, rfl, _⟩ := slice_of_own hpv
    have HX6 := Lib.hid (HX5.out.below hb56 (by omega))
    have HY6 := Lib.hid (HY5.out.below hb56 (by omega))
    have HZ6 := Lib.hid ((HZ5.out.below hb6 (by simp)))
    have HU6 := Lib.hid (selbox_new hpv)
    have HB6 := Lib.hid (HB5.out.trans (hb56.mono (by omega)))
    clear hpv hb6 hb56 HX5 HY5 HZ5
    have HX7 := Lib.hid (HX6.out.alloc (.cells #[.slice dA Q.places.length dc, .int .i64 Q.sum] 29))
    have HY7 := Lib.hid (HY6.out.alloc (.cells #[.slice dA Q.places.length dc, .int .i64 Q.sum] 29))
    have HZ7 := Lib.hid (HZ6.out.alloc (.cells #[.slice dA Q.places.length dc, .int .i64 Q.sum] 29))
    have x0 := HX7.out.1.cell 0
    have x1 := HX7.out.1.cell 1
    have y0 := HY7.out.1.cell 0
    have y1 := HY7.out.1.cell 1
    simp at x0 x1 y0 y1
    have hee : (R.err == R.err) = true := by simp
    have hqq : (Q.err == Q.err) = true := by simp
    go_wp2_with fail
    refine (same_any aA bA R.places.length R.places.length ac bc R.places R.places R.sum R.sum _ w6.heap.size (by simp) (HX7.out.2.more (by omega)) (HY7.out.2.more (by omega)) rfl rfl (by omega) (by omega)).mono ?_
    rintro e w7 ⟨rfl, hb7⟩
    rw [show sameB R.places R.sum R.places R.sum = true by simp [sameB]]
    have hz7 : w6.heap.size + 1 ≤ w7.heap.size := by have := hb7.size; simpa using this
    have HZ8 := Lib.hid (HZ7.out.below hb7 (by simp; omega))
    have HU8 := Lib.hid (HU6.out.below hb7 (by simp))
    have HB7 := Lib.hid (HB6.out.trans (((Below.refl w6.heap.size w6).alloc (Nat.le_refl _) _).trans (hb7.mono (by simp)) |>.mono (by omega)))
    have z0 := HZ8.out.1.cell 0
    have z1 := HZ8.out.1.cell 1
    have u0 := HU8.out.1.cell 0
    have u1 := HU8.out.1.cell 1
    simp at z0 z1 u0 u1
    clear hb7 x0 x1 y0 y1
    go_wp2_with fail
    refine (same_any cA dA Q.places.length Q.places.length cc dc Q.places Q.places Q.sum Q.sum _ w7.heap.size (Nat.le_refl _) (HZ8.out.2.more (by omega)) (HU8.out.2.more (by omega)) rfl rfl (by omega) (by omega)).mono ?_
    rintro e w8 ⟨rfl, hb8⟩
    rw [show sameB Q.places Q.sum Q.places Q.sum = true by simp [sameB]]
    have HB8 := Lib.hid (HB7.out.trans (hb8.mono (by omega)))
    clear hb8 z0 z1 u0 u1
    go_wp2
    go_ret
    exact ⟨rfl, HB8.out⟩
end Go.Proofs.Ytlajgdeoobmjjaa
