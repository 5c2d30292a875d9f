import Derived.Test.YtipochhfofhofaaDoorS20
namespace Go.Proofs.YtipochhfofhofaaDoor
open Go.RowKit
open Go.Av
set_option maxRecDepth 100000
set_option linter.unusedSimpArgs false
set_option linter.unusedVariables false
variable {G : Glob}

def keptF (b h : Hs) : Bool := decide (b.length ≤ 40) && decide (h.length ≤ 40)
theorem keptF_iff {b h : Hs} : keptF b h = true ↔ b.length ≤ 40 ∧ h.length ≤ 40 := by simp [keptF]
noncomputable def a1 : Arr 32 := (zA 32).put 0 1
noncomputable def a2 : Arr 32 := (zA 32).put 0 2
section
variable {T : Tab}
theorem w9 (b h : Hs) : execFn tt T G kp0 false 0 Tryd.f9 [fcP b h] = some (bV (keptF b h), []) := by
  refine fn_ends body9 ?_
  unfold c9
  rw [Tryd.ntmps9]
  by_cases he : b.length ≤ 40
  · have he' : (b.length : Int) ≤ 40 := by omega
    refine en_seq_reg rfl (by simp; rfl) ?_
    refine en_seq_reg rfl (by simp [he, he']; rfl) ?_
    refine en_ret ?_
    simp [keptF, he, bV]
    try omega
  · have he' : ¬ ((b.length : Int) ≤ 40) := by omega
    refine en_seq_reg rfl (by simp; rfl) ?_
    refine en_seq_reg rfl (by simp [he, he']; rfl) ?_
    refine en_ret ?_
    simp [keptF, he, bV]
theorem w10 (b h : Hs) : execFn tt T G kp0 false 0 Tryd.f10 [.one (hxC b), .one (hxC h)] = some (bV (keptF b h), []) := by
  refine fn_ends body10 ?_
  unfold c10
  rw [Tryd.ntmps10]
  by_cases he : b.length ≤ 40
  · have he' : (b.length : Int) ≤ 40 := by omega
    refine en_seq_reg rfl (by simp; rfl) ?_
    refine en_seq_reg rfl (by simp [he, he']; rfl) ?_
    refine en_ret ?_
    simp [keptF, he, bV]
    try omega
  · have he' : ¬ ((b.length : Int) ≤ 40) := by omega
    refine en_seq_reg rfl (by simp; rfl) ?_
    refine en_seq_reg rfl (by simp [he, he']; rfl) ?_
    refine en_ret ?_
    simp [keptF, he, bV]
theorem w8 (x y h0 : Arr 32) (hx : putCells (arC .u8 (zA 32)) 0 [.v (.int .u8 1)] = arC .u8 x) (hy : putCells (arC .u8 (zA 32)) 0 [.v (.int .u8 2)] = arC .u8 y) (h11 : T 11 = some G11) (h21 : T 21 = some G36) (h31 : T 31 = some G31)
    (e11 : G11 [.agg [.slice .no [], .slice .no []], .one (.slice .no [arC .u8 x]), .one (.slice .no [arC .u8 y])] = some (rsP ([x], [h0], 0), []))
    (e21 : G36 [.one (.slice .no [arC .u8 x, arC .u8 y]), .one (.slice .no [arC .u8 x])] = some (iP 1, []))
    (e31 : G31 [.agg (arC .u8 y), .agg (arC .u8 (zA 32))] = some (.agg (arC .u8 h0), [])) : execFn tt T G kp0 false 0 Tryd.f8 [] = some (bV true, []) := by
  refine fn_ends body8 ?_
  unfold c8
  rw [Tryd.ntmps8]
  refine en_seq_reg rfl (by simp; rfl) ?_
  refine en_seq_reg rfl (by simp [hx, hy]; rfl) ?_
  refine en_seq_reg rfl (by simp [h11, e11, hxs]; rfl) ?_
  refine en_seq_draw rfl (by simp [h21, h31, e21, e31, hxs]; exact ⟨rfl, rfl⟩) (by kernel_rfl) ?_
  refine en_ret ?_
  simp [bV]
end
noncomputable def G8 : List PV → Option (PV × List (List Cell)) := lift (fun _ : Unit => []) fun _ => some (bV true, [])
theorem G8_eq : G8 [] = some (bV true, []) := lift_eq (enc := fun _ : Unit => []) (fun a b h => rfl) ()
theorem ext1 (x y : Arr 32) : ext hdr [] [] [x] [y] = ([x], [hdr y (zA 32)], 0) := by
  have : batch hdr (prevA [] 0) [y] = [hdr y (zA 32)] := by simp [batch, bl, List.range_succ, bp, prevA]
  simp [ext, sound, this]
theorem dif1 (x y : Arr 32) : difF [x, y] [x] = 1 := by simp [difF, pfx]
theorem v8 (g0 : G 0 = some (arC .u32 iniA)) (g1 : G 1 = some (arC .u32 kA)) : Impl Tryd.prog G 8 G8 := impl_of (T := Av.tab [(11, G11), (21, G36), (31, G31)]) mixed htt (Av.tab_ok ⟨v11 g0 g1, v21, v31 g0 g1, trivial⟩) Tryd.func8 body8 (by kernel_rfl) fun ps r ho hF => by
  obtain ⟨x, rfl, h⟩ := lift_inv hF
  injection h with h
  subst h
  refine ⟨_, _, _, w8 a1 a2 (hdr a2 (zA 32)) (arC_put (zA 32) (i := 0) (by omega) 1) (arC_put (zA 32) (i := 0) (by omega) 2) rfl rfl rfl ?_ ?_ (G31_eq _ _)⟩
  · have := G11_eq (b := []) (h := []) (l := [a1]) (f := [a2]) (by simp) (by simp) (by simp) (by simp)
    rw [ext1] at this
    exact this
  · have := G36_eq (a := [a1, a2]) (b := [a1]) (by simp) (by simp)
    rw [dif1] at this
    exact this
noncomputable def G9 := lift (fun x : Hs × Hs => [fcP x.1 x.2]) fun x => some (bV (keptF x.1 x.2), [])
theorem G9_inj (x y : Hs × Hs) (h : (fun x : Hs × Hs => ([fcP x.1 x.2] : List PV)) x = (fun x : Hs × Hs => ([fcP x.1 x.2] : List PV)) y) : x = y := by
  simp at h
  exact Prod.ext (hxs_inj h.1) (hxs_inj h.2)
theorem G9_eq (b h : Hs) : G9 [fcP b h] = some (bV (keptF b h), []) := lift_eq G9_inj (b, h)
theorem v9 : Impl Tryd.prog G 9 G9 := impl_of (T := Av.tab []) mixed htt (Av.tab_ok trivial) Tryd.func9 body9 (by kernel_rfl) fun ps r ho hF => by
  obtain ⟨x, rfl, h⟩ := lift_inv hF
  injection h with h
  subst h
  exact ⟨_, _, _, w9 _ _⟩
noncomputable def G10 := lift (fun x : Hs × Hs => [.one (hxC x.1), .one (hxC x.2)]) fun x => some (bV (keptF x.1 x.2), [])
theorem G10_inj (x y : Hs × Hs) (h : (fun x : Hs × Hs => ([.one (hxC x.1), .one (hxC x.2)] : List PV)) x = (fun x : Hs × Hs => ([.one (hxC x.1), .one (hxC x.2)] : List PV)) y) : x = y := by
  simp at h
  exact Prod.ext (hxs_inj h.1) (hxs_inj h.2)
theorem G10_eq (b h : Hs) : G10 [.one (hxC b), .one (hxC h)] = some (bV (keptF b h), []) := lift_eq G10_inj (b, h)
theorem v10 : Impl Tryd.prog G 10 G10 := impl_of (T := Av.tab []) mixed htt (Av.tab_ok trivial) Tryd.func10 body10 (by kernel_rfl) fun ps r ho hF => by
  obtain ⟨x, rfl, h⟩ := lift_inv hF
  injection h with h
  subst h
  exact ⟨_, _, _, w10 _ _⟩
theorem ext_len (hd : Arr 32 → Arr 32 → Arr 32) (b h l f : Hs) : (ext hd b h l f).1.length ≤ b.length + l.length ∧ (ext hd b h l f).2.1.length ≤ h.length + f.length := by
  unfold ext
  split
  · simp
  · split
    · simp
    · split
      · simp
      · simp
theorem rew_len (b h : Hs) (n : Int) : (rew b h n).1.length ≤ b.length ∧ (rew b h n).2.1.length ≤ h.length := by
  unfold rew
  split
  · simp
  · split
    · simp
    · simp; omega
theorem fol_len (b h l f : Hs) : (fol b h l f).1.length ≤ b.length + l.length ∧ (fol b h l f).2.1.length ≤ h.length + f.length := by
  unfold fol
  split
  · have := ext_len hdr (b.take (com b h l)) (h.take (com b h l)) (l.drop (com b h l)) f
    simp only [List.length_take, List.length_drop] at this
    omega
  · simp
theorem chk_len (b h : Hs) (n : Int) : (chk b h n).length ≤ h.length := by
  unfold chk
  split
  · simp
  · exact ck_len _ _ _
theorem pfx_self (a : Hs) : pfx a a = a.length := by
  induction a with
  | nil => rfl
  | cons x a ih => simp [pfx, ih]
theorem dif_self (a : Hs) : difF a a = -1 := by simp [difF, pfx_self]
section
variable {T : Tab}
theorem w3 (b h l f : Hs) (p : Arr 32) (h8 : T 8 = some G8) (h9 : T 9 = some G9) (h10 : T 10 = some G10) (h11 : T 11 = some G11) (h12 : T 12 = some G11) (h13 : T 13 = some G13) (h14 : T 14 = some G13) (h15 : T 15 = some G15) (h16 : T 16 = some G16) (h17 : T 17 = some G16) (h18 : T 18 = some G18) : execFn tt T G kp0 false 0 Tryd.f3 [fcP b h, .one (hxC l), .one (hxC f), .agg (arC .u8 p)] = some (bV true, []) := by
  refine fn_ends body3 ?_
  unfold c3
  rw [Tryd.ntmps3]
  have e8 := G8_eq
  have e9 := G9_eq b h
  have e10 := G10_eq l f
  unfold bV at e8 e9 e10
  refine en_seq_reg rfl (by simp; rfl) ?_
  refine en_assoc ?_
  refine en_seq_reg rfl (by simp [h8, e8]; rfl) ?_
  refine en_seq_cond (t := false) (by simp [bV]) (fun h => by simp at h) (fun _ => ?_)
  refine en_seq_skip ?_
  refine en_assoc ?_
  by_cases hk : keptF b h = false
  · refine en_seq_reg rfl (by simp [h9, e9, hk]; rfl) ?_
    refine en_seq_cond (t := true) (by simp [bV]) (fun _ => ?_) (fun h => by simp at h)
    refine en_assoc ?_
    refine en_seq_reg rfl (by simp; rfl) ?_
    refine en_seq_ret ?_
    simp [bV]
  simp at hk
  by_cases hf : keptF l f = false
  · refine en_seq_reg rfl (by simp [h9, e9, hk, h10, e10, hf]; rfl) ?_
    refine en_seq_cond (t := true) (by simp [bV]) (fun _ => ?_) (fun h => by simp at h)
    refine en_assoc ?_
    refine en_seq_reg rfl (by simp; rfl) ?_
    refine en_seq_ret ?_
    simp [bV]
  simp at hf
  have hk' := keptF_iff.1 hk
  have hf' := keptF_iff.1 hf
  refine en_seq_reg rfl (by simp [h9, e9, hk, h10, e10, hf]; rfl) ?_
  refine en_seq_cond (t := false) (by simp [bV]) (fun h => by simp at h) (fun _ => ?_)
  refine en_seq_skip ?_
  have e11 := G11_eq (b := b) (h := h) (l := l) (f := f) (by omega) (by omega) (by omega) (by omega)
  have hl := ext_len hdr b h l f
  have e13 := G13_eq b h
  have e16 := G16_eq (p := p) (fs := f) (by omega)
  have e15 := G15_eq (l := batch hdr p f) (by simp; omega)
  generalize batch hdr p f = B at *
  generalize ext hdr b h l f = R at *
  obtain ⟨X, Y, er⟩ := R
  have e18 := G18_eq (b := X) (h := Y) (by simp at hl; omega) (by simp at hl; omega)
  generalize sound b h = s at *
  refine en_seq_reg rfl (by simp [h11, e11]; rfl) ?_
  refine en_seq_reg rfl (by simp [h12, e11]; rfl) ?_
  refine en_seq_draw rfl (by simp [h13, h14, h15, h16, h17, h18, e13, e16, e15, e18]; exact ⟨rfl, rfl⟩) (by kernel_rfl) ?_
  refine en_ret ?_
  simp [bV]
theorem w4 (b h l f : Hs) (n : Int) (hn : n ≤ 9223372036854775807) (h8 : T 8 = some G8) (h9 : T 9 = some G9) (h10 : T 10 = some G10) (h19 : T 19 = some G19) (h20 : T 20 = some G19) (h15 : T 15 = some G15) (h21 : T 21 = some G36) (h22 : T 22 = some G36) : execFn tt T G kp0 false 0 Tryd.f4 [fcP b h, iP n, .one (hxC l), .one (hxC f)] = some (bV true, []) := by
  refine fn_ends body4 ?_
  unfold c4
  rw [Tryd.ntmps4]
  have e8 := G8_eq
  have e9 := G9_eq b h
  have e10 := G10_eq l f
  unfold bV at e8 e9 e10
  refine en_seq_reg rfl (by simp; rfl) ?_
  refine en_assoc ?_
  refine en_seq_reg rfl (by simp [h8, e8]; rfl) ?_
  refine en_seq_cond (t := false) (by simp [bV]) (fun h => by simp at h) (fun _ => ?_)
  refine en_seq_skip ?_
  refine en_assoc ?_
  by_cases hk : keptF b h = false
  · refine en_seq_reg rfl (by simp [h9, e9, hk]; rfl) ?_
    refine en_seq_cond (t := true) (by simp [bV]) (fun _ => ?_) (fun h => by simp at h)
    refine en_assoc ?_
    refine en_seq_reg rfl (by simp; rfl) ?_
    refine en_seq_ret ?_
    simp [bV]
  simp at hk
  by_cases hf : keptF l f = false
  · refine en_seq_reg rfl (by simp [h9, e9, hk, h10, e10, hf]; rfl) ?_
    refine en_seq_cond (t := true) (by simp [bV]) (fun _ => ?_) (fun h => by simp at h)
    refine en_assoc ?_
    refine en_seq_reg rfl (by simp; rfl) ?_
    refine en_seq_ret ?_
    simp [bV]
  simp at hf
  have hk' := keptF_iff.1 hk
  have hf' := keptF_iff.1 hf
  refine en_seq_reg rfl (by simp [h9, e9, hk, h10, e10, hf]; rfl) ?_
  refine en_seq_cond (t := false) (by simp [bV]) (fun h => by simp at h) (fun _ => ?_)
  refine en_seq_skip ?_
  have e19 := G19_eq (b := b) (h := h) (n := n) (by omega) (by omega) hn
  have hcl := chk_len b h n
  generalize chk b h n = C at *
  have e15 := G15_eq (l := C) (by omega)
  have e36 := G36_eq (a := l) (b := f) (by omega) (by omega)
  have e36' := G36_eq (a := l) (b := l) (by omega) (by omega)
  rw [dif_self] at e36'
  by_cases hlf : l = f
  · subst hlf
    rw [dif_self] at e36
    refine en_seq_draw rfl (by simp [h15, h19, h20, h21, h22, e19, e15, e36']; exact ⟨rfl, rfl⟩) (by kernel_rfl) ?_
    refine en_ret ?_
    simp [bV]
  · generalize difF l f = D at *
    refine en_seq_draw rfl (by simp [h15, h19, h20, h21, h22, e19, e15, e36, e36']; exact ⟨rfl, rfl⟩) (by kernel_rfl) ?_
    refine en_ret ?_
    simp [bV]
set_option maxHeartbeats 2000000 in
theorem w5 (b h l : Hs) (n : Int) (h8 : T 8 = some G8) (h9 : T 9 = some G9) (h10 : T 10 = some G10) (h23 : T 23 = some G23) (h24 : T 24 = some G23) (h18 : T 18 = some G18) (h25 : T 25 = some G25) (h26 : T 26 = some G25) : execFn tt T G kp0 false 0 Tryd.f5 [fcP b h, iP n, .one (hxC l)] = some (bV true, []) := by
  refine fn_ends body5 ?_
  unfold c5
  rw [Tryd.ntmps5]
  have e8 := G8_eq
  have e9 := G9_eq b h
  have e10 : G10 [.one (hxC l), .one (.slice .no [])] = some (bV (keptF l []), []) := G10_eq l []
  unfold bV at e8 e9 e10
  refine en_seq_reg rfl (by simp; rfl) ?_
  refine en_assoc ?_
  refine en_seq_reg rfl (by simp [h8, e8]; rfl) ?_
  refine en_seq_cond (t := false) (by simp [bV]) (fun h => by simp at h) (fun _ => ?_)
  refine en_seq_skip ?_
  refine en_assoc ?_
  by_cases hk : keptF b h = false
  · refine en_seq_reg rfl (by simp [h9, e9, hk]; rfl) ?_
    refine en_seq_cond (t := true) (by simp [bV]) (fun _ => ?_) (fun h => by simp at h)
    refine en_assoc ?_
    refine en_seq_reg rfl (by simp; rfl) ?_
    refine en_seq_ret ?_
    simp [bV]
  simp at hk
  by_cases hf : keptF l [] = false
  · refine en_seq_reg rfl (by simp [h9, e9, hk, h10, e10, hf]; rfl) ?_
    refine en_seq_cond (t := true) (by simp [bV]) (fun _ => ?_) (fun h => by simp at h)
    refine en_assoc ?_
    refine en_seq_reg rfl (by simp; rfl) ?_
    refine en_seq_ret ?_
    simp [bV]
  simp at hf
  have hk' := keptF_iff.1 hk
  have hf' := keptF_iff.1 hf
  refine en_seq_reg rfl (by simp [h9, e9, hk, h10, e10, hf]; rfl) ?_
  refine en_seq_cond (t := false) (by simp [bV]) (fun h => by simp at h) (fun _ => ?_)
  refine en_seq_skip ?_
  have e23 := G23_eq (b := b) (h := h) (n := n) (by omega) (by omega)
  have hl := rew_len b h n
  generalize rew b h n = R at *
  obtain ⟨X, Y, er⟩ := R
  have e18 := G18_eq (b := X) (h := Y) (by simp at hl; omega) (by simp at hl; omega)
  have e25 := G25_eq (b := b) (h := h) (l := l) (by omega) (by omega) (by omega)
  have hq : IntKind.i64.wrap (Int.tdiv (b.length : Int) 2) = ((b.length / 2 : Nat) : Int) := by
    rw [Int.tdiv_eq_ediv_of_nonneg (by omega), wrap_i64 (by omega) (by omega)]; omega
  have hq' : IntKind.i64.wrap ((b.length : Int) / 2) = ((b.length / 2 : Nat) : Int) := by
    rw [wrap_i64 (by omega) (by omega)]; omega
  have hk2 : b.length / 2 ≤ b.length := by omega
  generalize b.length / 2 = k at *
  have hmin : min k b.length = k := Nat.min_eq_left hk2
  have e25' := G25_eq (b := b) (h := h) (l := b.take k ++ l) (by omega) (by omega) (by simp; omega)
  have ht : (hxs (b.take k ++ l)).take (k + l.length) = hxs (b.take k ++ l) := List.take_of_length_le (by simp; omega)
  have m1 : k * 32 ≤ 140737488355328 := by omega
  have m2 : k ≤ maxLen := by unfold maxLen; omega
  have m3 : (k + l.length) * 32 ≤ 140737488355328 := by omega
  have m4 : k + l.length ≤ maxLen := by unfold maxLen; omega
  refine en_seq_reg rfl (by simp [h23, e23]; rfl) ?_
  refine en_seq_reg rfl (by simp [h24, e23]; rfl) ?_
  refine en_seq_reg rfl (by simp [hq, hq', hk2, hmin, hxs_take, hxs_append, hxs_allT b, hxs_allT (b.take k), hxs_allT l, m1, m2, m3, m4]; rfl) ?_
  generalize hM : b.take k ++ l = M at *
  have hMl : M.length = k + l.length := by rw [← hM]; simp [hmin]
  refine en_seq_draw rfl (by simp [h18, h25, h26, e18, e25, e25', ht, hMl]; exact ⟨rfl, rfl⟩) (by kernel_rfl) ?_
  refine en_ret ?_
  simp [bV]
set_option maxHeartbeats 2000000 in
theorem w6 (b h l f : Hs) (K : Nat) (hK : K ≤ 255) (h8 : T 8 = some G8) (h9 : T 9 = some G9) (h10 : T 10 = some G10) (h27 : T 27 = some G27) (h28 : T 28 = some G27) (h18 : T 18 = some G18) : execFn tt T G kp0 false 0 Tryd.f6 [fcP b h, .one (hxC l), .one (hxC f), .one (.v (.int .u8 K))] = some (bV true, []) := by
  refine fn_ends body6 ?_
  unfold c6
  rw [Tryd.ntmps6]
  have e8 := G8_eq
  have e9 := G9_eq b h
  have e10 := G10_eq l f
  unfold bV at e8 e9 e10
  refine en_seq_reg rfl (by simp; rfl) ?_
  refine en_assoc ?_
  refine en_seq_reg rfl (by simp [h8, e8]; rfl) ?_
  refine en_seq_cond (t := false) (by simp [bV]) (fun h => by simp at h) (fun _ => ?_)
  refine en_seq_skip ?_
  refine en_assoc ?_
  by_cases hk : keptF b h = false
  · refine en_seq_reg rfl (by simp [h9, e9, hk]; rfl) ?_
    refine en_seq_cond (t := true) (by simp [bV]) (fun _ => ?_) (fun h => by simp at h)
    refine en_assoc ?_
    refine en_seq_reg rfl (by simp; rfl) ?_
    refine en_seq_ret ?_
    simp [bV]
  simp at hk
  by_cases hf : keptF l f = false
  · refine en_seq_reg rfl (by simp [h9, e9, hk, h10, e10, hf]; rfl) ?_
    refine en_seq_cond (t := true) (by simp [bV]) (fun _ => ?_) (fun h => by simp at h)
    refine en_assoc ?_
    refine en_seq_reg rfl (by simp; rfl) ?_
    refine en_seq_ret ?_
    simp [bV]
  simp at hf
  have hk' := keptF_iff.1 hk
  have hf' := keptF_iff.1 hf
  refine en_seq_reg rfl (by simp [h9, e9, hk, h10, e10, hf]; rfl) ?_
  refine en_seq_cond (t := false) (by simp [bV]) (fun h => by simp at h) (fun _ => ?_)
  refine en_seq_skip ?_
  have hw0 : IntKind.i64.wrap (K : Int) = K := wrap_i64 (by omega) (by omega)
  have hw1 : IntKind.i64.wrap ((b.length : Int) + 1) = ((b.length + 1 : Nat) : Int) := by rw [wrap_i64 (by omega) (by omega)]; omega
  have hm := tmod_nat K (b.length + 1)
  have hm' : (K : Int) % ((b.length + 1 : Nat) : Int) = ((K % (b.length + 1) : Nat) : Int) := rfl
  have hnz' : ¬ (b.length + 1 : Nat) = 0 := by omega
  have hnz : ¬ ((b.length + 1 : Nat) : Int) = 0 := by omega
  have hk2 : K % (b.length + 1) ≤ b.length := by have := Nat.mod_lt K (show 0 < b.length + 1 by omega); omega
  generalize b.length + 1 = B1 at *
  generalize K % B1 = k at *
  have hmin : min k b.length = k := Nat.min_eq_left hk2
  have ht : (hxs (b.take k ++ l)).take (k + l.length) = hxs (b.take k ++ l) := List.take_of_length_le (by simp; omega)
  have e27 := G27_eq (b := b) (h := h) (l := b.take k ++ l) (f := f) (by omega) (by omega) (by simp; omega) (by omega)
  have hl := fol_len b h (b.take k ++ l) f
  simp only [List.length_append, List.length_take] at hl
  generalize fol b h (b.take k ++ l) f = R at *
  obtain ⟨X, Y, er⟩ := R
  have e18 := G18_eq (b := X) (h := Y) (by simp at hl; omega) (by simp at hl; omega)
  have m1 : k * 32 ≤ 140737488355328 := by omega
  have m2 : k ≤ maxLen := by unfold maxLen; omega
  have m3 : (k + l.length) * 32 ≤ 140737488355328 := by omega
  have m4 : k + l.length ≤ maxLen := by unfold maxLen; omega
  refine en_seq_draw rfl (by simp [hw0, hw1, hm, hm', hnz, hnz', hk2, hmin, hxs_take, hxs_append, hxs_allT b, hxs_allT (b.take k), hxs_allT l, m1, m2, m3, m4]; exact ⟨rfl, rfl⟩) (by kernel_rfl) ?_
  generalize hM : b.take k ++ l = M at *
  have hMl : M.length = k + l.length := by rw [← hM]; simp [hmin]
  refine en_seq_reg rfl (by simp [h27, e27, ht, hMl]; rfl) ?_
  refine en_seq_reg rfl (by simp [h28, e27, ht, hMl]; rfl) ?_
  refine en_seq_reg rfl (by simp [h18, e18]; rfl) ?_
  refine en_ret ?_
  simp [bV]
end
end Go.Proofs.YtipochhfofhofaaDoor
