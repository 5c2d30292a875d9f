import Derived.Test.YtipochhfofhofaaDoorS18
namespace Go.Proofs.YtipochhfofhofaaDoor
open Go.RowKit
open Go.Av
set_option maxRecDepth 100000
set_option linter.unusedSimpArgs false
set_option linter.unusedVariables false
variable {G : Glob}
theorem hxs_g {l : Hs} {x : Arr 32} {i : Nat} (hx : l[i]? = some x) (h : i < (hxs l).length) : (hxs l)[i]'h = arC .u8 x := by
  have := hxs_get (l := l) i
  rw [hx, List.getElem?_eq_getElem h] at this
  simpa using this
noncomputable def G11 := lift (fun x : { x : (Hs × Hs) × (Hs × Hs) // x.1.1.length ≤ 10000 ∧ x.1.2.length ≤ 10000 ∧ x.2.1.length ≤ 10000 ∧ x.2.2.length ≤ 10000 } => [fcP x.1.1.1 x.1.1.2, .one (hxC x.1.2.1), .one (hxC x.1.2.2)]) fun x => some (rsP (ext hdr x.1.1.1 x.1.1.2 x.1.2.1 x.1.2.2), [])
theorem G11_inj (x y : { x : (Hs × Hs) × (Hs × Hs) // x.1.1.length ≤ 10000 ∧ x.1.2.length ≤ 10000 ∧ x.2.1.length ≤ 10000 ∧ x.2.2.length ≤ 10000 }) (h : (fun x : { x : (Hs × Hs) × (Hs × Hs) // x.1.1.length ≤ 10000 ∧ x.1.2.length ≤ 10000 ∧ x.2.1.length ≤ 10000 ∧ x.2.2.length ≤ 10000 } => ([fcP x.1.1.1 x.1.1.2, .one (hxC x.1.2.1), .one (hxC x.1.2.2)] : List PV)) x = (fun x : { x : (Hs × Hs) × (Hs × Hs) // x.1.1.length ≤ 10000 ∧ x.1.2.length ≤ 10000 ∧ x.2.1.length ≤ 10000 ∧ x.2.2.length ≤ 10000 } => ([fcP x.1.1.1 x.1.1.2, .one (hxC x.1.2.1), .one (hxC x.1.2.2)] : List PV)) y) : x = y := by
  simp at h
  exact Subtype.ext (Prod.ext (Prod.ext (hxs_inj h.1.1) (hxs_inj h.1.2)) (Prod.ext (hxs_inj h.2.1) (hxs_inj h.2.2)))
theorem G11_eq {b h l f : Hs} (n1 : b.length ≤ 10000) (n2 : h.length ≤ 10000) (n3 : l.length ≤ 10000) (n4 : f.length ≤ 10000) : G11 [fcP b h, .one (hxC l), .one (hxC f)] = some (rsP (ext hdr b h l f), []) := lift_eq G11_inj ⟨((b, h), (l, f)), n1, n2, n3, n4⟩
theorem v11 (g0 : G 0 = some (arC .u32 iniA)) (g1 : G 1 = some (arC .u32 kA)) : Impl Tryd.prog G 11 G11 := impl_of (T := Av.tab [(13, G13), (16, G16), (32, G32), (33, G33)]) mixed htt (Av.tab_ok ⟨v13, v16 g0 g1, v32, v33, trivial⟩) Tryd.func11 body11 (by kernel_rfl) fun ps r ho hF => by
  obtain ⟨x, rfl, h⟩ := lift_inv hF
  injection h with h
  subst h
  exact ⟨_, _, _, w11 hdr _ _ _ _ x.2.1 x.2.2.1 x.2.2.2.1 x.2.2.2.2 rfl rfl rfl rfl (G16_eq (by have := x.2.2.2.2; omega))⟩
theorem v12 : Impl Tryd.prog G 12 G11 := impl_of (T := Av.tab [(14, G13), (17, G16), (34, G34)]) mixed htt (Av.tab_ok ⟨v14, v17, v34, trivial⟩) Tryd.func12 body12 (by kernel_rfl) fun ps r ho hF => by
  obtain ⟨x, rfl, h⟩ := lift_inv hF
  injection h with h
  subst h
  exact ⟨_, _, _, w12 hdr _ _ _ _ x.2.1 x.2.2.1 x.2.2.2.1 x.2.2.2.2 rfl rfl rfl (G16_eq (by have := x.2.2.2.2; omega))⟩
noncomputable def G23 := lift (fun x : { x : (Hs × Hs) × Int // x.1.1.length ≤ 10000 ∧ x.1.2.length ≤ 10000 } => [fcP x.1.1.1 x.1.1.2, iP x.1.2]) fun x => some (rsP (rew x.1.1.1 x.1.1.2 x.1.2), [])
theorem G23_inj (x y : { x : (Hs × Hs) × Int // x.1.1.length ≤ 10000 ∧ x.1.2.length ≤ 10000 }) (h : (fun x : { x : (Hs × Hs) × Int // x.1.1.length ≤ 10000 ∧ x.1.2.length ≤ 10000 } => ([fcP x.1.1.1 x.1.1.2, iP x.1.2] : List PV)) x = (fun x : { x : (Hs × Hs) × Int // x.1.1.length ≤ 10000 ∧ x.1.2.length ≤ 10000 } => ([fcP x.1.1.1 x.1.1.2, iP x.1.2] : List PV)) y) : x = y := by
  simp at h
  exact Subtype.ext (Prod.ext (Prod.ext (hxs_inj h.1.1) (hxs_inj h.1.2)) h.2)
theorem G23_eq {b h : Hs} {n : Int} (n1 : b.length ≤ 10000) (n2 : h.length ≤ 10000) : G23 [fcP b h, iP n] = some (rsP (rew b h n), []) := lift_eq G23_inj ⟨((b, h), n), n1, n2⟩
theorem v23 : Impl Tryd.prog G 23 G23 := impl_of (T := Av.tab [(13, G13), (32, G32)]) mixed htt (Av.tab_ok ⟨v13, v32, trivial⟩) Tryd.func23 body23 (by kernel_rfl) fun ps r ho hF => by
  obtain ⟨x, rfl, h⟩ := lift_inv hF
  injection h with h
  subst h
  exact ⟨_, _, _, w23 _ _ _ x.2.1 x.2.2 rfl rfl⟩
theorem v24 : Impl Tryd.prog G 24 G23 := impl_of (T := Av.tab [(14, G13), (34, G34)]) mixed htt (Av.tab_ok ⟨v14, v34, trivial⟩) Tryd.func24 body24 (by kernel_rfl) fun ps r ho hF => by
  obtain ⟨x, rfl, h⟩ := lift_inv hF
  injection h with h
  subst h
  exact ⟨_, _, _, w24 _ _ _ x.2.1 x.2.2 rfl rfl⟩
noncomputable def G36 := lift (fun x : { x : Hs × Hs // x.1.length ≤ 1000000 ∧ x.2.length ≤ 1000000 } => [.one (hxC x.1.1), .one (hxC x.1.2)]) fun x => some (iP (difF x.1.1 x.1.2), [])
theorem G36_inj (x y : { x : Hs × Hs // x.1.length ≤ 1000000 ∧ x.2.length ≤ 1000000 }) (h : (fun x : { x : Hs × Hs // x.1.length ≤ 1000000 ∧ x.2.length ≤ 1000000 } => ([.one (hxC x.1.1), .one (hxC x.1.2)] : List PV)) x = (fun x : { x : Hs × Hs // x.1.length ≤ 1000000 ∧ x.2.length ≤ 1000000 } => ([.one (hxC x.1.1), .one (hxC x.1.2)] : List PV)) y) : x = y := by
  simp at h
  exact Subtype.ext (Prod.ext (hxs_inj h.1) (hxs_inj h.2))
theorem G36_eq {a b : Hs} (n1 : a.length ≤ 1000000) (n2 : b.length ≤ 1000000) : G36 [.one (hxC a), .one (hxC b)] = some (iP (difF a b), []) := lift_eq G36_inj ⟨(a, b), n1, n2⟩
theorem v36 : Impl Tryd.prog G 36 G36 := impl_of (T := Av.tab []) mixed htt (Av.tab_ok trivial) Tryd.func36 body36 (by kernel_rfl) fun ps r ho hF => by
  obtain ⟨x, rfl, h⟩ := lift_inv hF
  injection h with h
  subst h
  exact ⟨_, _, _, w36 _ _ x.2.1 x.2.2⟩
theorem v22 : Impl Tryd.prog G 22 G36 := impl_of (T := Av.tab []) mixed htt (Av.tab_ok trivial) Tryd.func22 body22 (by kernel_rfl) fun ps r ho hF => by
  obtain ⟨x, rfl, h⟩ := lift_inv hF
  injection h with h
  subst h
  exact ⟨_, _, _, w22 _ _ x.2.1 x.2.2⟩
section
variable {T : Tab}
theorem w21 (a b : Hs) (na : a.length ≤ 1000000) (nb : b.length ≤ 1000000) (h36 : T 36 = some G36) : execFn tt T G kp0 false 0 Tryd.f21 [.one (hxC a), .one (hxC b)] = some (iP (difF a b), []) := by
  refine fn_ends body21 ?_
  unfold c21
  rw [Tryd.ntmps21]
  have e := G36_eq na nb
  refine en_seq_reg rfl (by simp; rfl) ?_
  refine en_seq_reg rfl (by simp [h36, e]; rfl) ?_
  refine en_ret ?_
  simp
def com (b h l : Hs) : Nat := if sound b h = true then pfx b l else 0
theorem w25 (b h l : Hs) (n1 : b.length ≤ 10000) (n2 : h.length ≤ 10000) (n3 : l.length ≤ 10000) (h13 : T 13 = some G13) (h36 : T 36 = some G36) : execFn tt T G kp0 false 0 Tryd.f25 [fcP b h, .one (hxC l)] = some (iP (com b h l), []) := by
  refine fn_ends body25 ?_
  unfold c25
  rw [Tryd.ntmps25]
  have e13 := G13_eq b h
  have e36 := G36_eq (a := b) (b := l) (by omega) (by omega)
  have hp := pfx_le b l
  refine en_seq_reg rfl (by simp; rfl) ?_
  refine en_assoc ?_
  refine en_seq_reg rfl (by simp [h13, e13]; rfl) ?_
  by_cases hs : sound b h = true
  · have hc : com b h l = pfx b l := by simp [com, hs]
    rw [hc]
    refine en_seq_cond (t := false) (by simp [bV, hs]) (fun h => by simp at h) (fun _ => ?_)
    refine en_seq_skip ?_
    refine en_assoc ?_
    refine en_seq_reg rfl (by simp [h36, e36]; rfl) ?_
    refine en_assoc ?_
    refine en_seq_reg rfl (by simp; rfl) ?_
    by_cases hq : b.length = l.length ∧ pfx b l = b.length
    · have hd : difF b l = -1 := by simp [difF, hq]
      rw [hd]
      refine en_seq_cond (t := false) (by simp [bV]) (fun h => by simp at h) (fun _ => ?_)
      refine en_seq_skip ?_
      refine en_seq_reg rfl (by simp; rfl) ?_
      refine en_ret ?_
      simp
      omega
    · have hd : difF b l = pfx b l := by simp only [difF, hq, if_false]
      rw [hd]
      have h0 : (0 : Int) ≤ pfx b l := by omega
      refine en_seq_cond (t := true) (by simp [bV, h0]) (fun _ => ?_) (fun h => by simp at h)
      refine en_assoc ?_
      refine en_seq_reg rfl (by simp; rfl) ?_
      refine en_seq_ret ?_
      simp
  · simp at hs
    refine en_seq_cond (t := true) (by simp [bV, hs]) (fun _ => ?_) (fun h => by simp at h)
    refine en_assoc ?_
    refine en_seq_reg rfl (by simp; rfl) ?_
    refine en_seq_ret ?_
    simp [com, hs]
def H26 (b h l : Hs) (i : Nat) : ASt := ⟨und 1 ++ ([.one (hxC l), .ptr 2 0 0 0 2] ++ (und 2 ++ ([iP i] ++ (und 29)))), [(2, ⟨0, 2, [[hxC b, hxC h]], false, false⟩)]⟩
def kp26 : Keep := fun n => ⟨[1, 2, 5], [2], []⟩
theorem w26 (b h l : Hs) (n1 : b.length ≤ 10000) (n2 : h.length ≤ 10000) (n3 : l.length ≤ 10000) (h14 : T 14 = some G13) : execFn tt T G kp26 false (b.length + 1) Tryd.f26 [fcP b h, .one (hxC l)] = some (iP (com b h l), []) := by
  refine fn_ends body26 ?_
  unfold c26
  rw [Tryd.ntmps26]
  have e13 := G13_eq b h
  have hp := pfx_le b l
  refine en_seq_reg rfl (by simp; rfl) ?_
  refine en_assoc ?_
  refine en_seq_reg rfl (by simp [h14, e13]; rfl) ?_
  by_cases hs : sound b h = true
  · have hc : com b h l = pfx b l := by simp [com, hs]
    rw [hc]
    refine en_seq_cond (t := false) (by simp [bV, hs]) (fun h => by simp at h) (fun _ => ?_)
    refine en_seq_skip ?_
    refine en_seq_reg rfl (by simp; rfl) ?_
    refine en_seq_block (en_loop (kq := ⟨[1, 2, 5], [2], []⟩) rfl ?_)
    refine it_inv (fun i => H26 b h l i) (fun i => i ≤ pfx b l) (fun i => b.length - i) ?_ _ 0 _ ?_ ?_ ?_
    · intro i hi
      unfold b26_1 H26
      refine en_assoc ?_
      by_cases hlp : i < pfx b l
      · obtain ⟨x, hx1, hx2⟩ := pfx_eq hlp
        have p1 : (i : Int) < b.length := by omega
        have p2 : i < b.length := by omega
        have p3 : (i : Int) < l.length := by omega
        have p4 : i < l.length := by omega
        refine en_seq_draw rfl (by simp [und, List.replicate, p1, p2, p3, p4, hx1, hx2, hxs_g hx1, hxs_g hx2]; exact ⟨rfl, rfl⟩) (by kernel_rfl) ?_
        refine en_seq_cond (t := true) (by simp [bV]) (fun _ => ?_) (fun h => by simp at h)
        refine en_seq_skip ?_
        refine en_block ?_
        refine en_reg rfl (by simp; rfl) ?_
        simp only [outOf, thenQ, if_true]
        have hw : IntKind.i64.wrap ((i : Int) + 1) = i + 1 := wrap_i64 (by omega) (by omega)
        refine ⟨i + 1, by omega, ?_, by omega⟩
        simp [hw, und, List.replicate]
      · obtain rfl : i = pfx b l := by omega
        by_cases k1 : b.length ≤ pfx b l
        · have p1 : ¬ ((pfx b l : Int) < b.length) := by omega
          have p2 : ¬ (pfx b l < b.length) := by omega
          refine en_seq_draw rfl (by simp [und, List.replicate, p1, p2]; exact ⟨rfl, rfl⟩) (by kernel_rfl) ?_
          refine en_seq_cond (t := false) (by simp [bV]) (fun h => by simp at h) (fun _ => ?_)
          refine en_seq_exit ?_
          simp only [outOf, thenQ, if_true]
          refine en_seq_reg rfl (by simp; rfl) ?_
          refine en_ret ?_
          simp
        · have p1 : ((pfx b l : Int) < b.length) := by omega
          have p2 : (pfx b l < b.length) := by omega
          by_cases k2 : l.length ≤ pfx b l
          · have p3 : ¬ ((pfx b l : Int) < l.length) := by omega
            have p4 : ¬ (pfx b l < l.length) := by omega
            refine en_seq_draw rfl (by simp [und, List.replicate, p1, p2, p3, p4]; exact ⟨rfl, rfl⟩) (by kernel_rfl) ?_
            refine en_seq_cond (t := false) (by simp [bV]) (fun h => by simp at h) (fun _ => ?_)
            refine en_seq_exit ?_
            simp only [outOf, thenQ, if_true]
            refine en_seq_reg rfl (by simp; rfl) ?_
            refine en_ret ?_
            simp
          · have p3 : ((pfx b l : Int) < l.length) := by omega
            have p4 : (pfx b l < l.length) := by omega
            have ha : b[pfx b l]? = some (b[pfx b l]'(by omega)) := by simp
            have hb : l[pfx b l]? = some (l[pfx b l]'(by omega)) := by simp
            have hne := pfx_ne ha hb
            generalize b[pfx b l]'(by omega) = x at ha hne
            generalize l[pfx b l]'(by omega) = y at hb hne
            generalize pfx b l = i at *
            refine en_seq_draw rfl (by simp [und, List.replicate, p1, p2, p3, p4, ha, hb, hne, hxs_g ha, hxs_g hb]; exact ⟨rfl, rfl⟩) (by kernel_rfl) ?_
            refine en_seq_cond (t := false) (by simp [bV]) (fun h => by simp at h) (fun _ => ?_)
            refine en_seq_exit ?_
            simp only [outOf, thenQ, if_true]
            refine en_seq_reg rfl (by simp; rfl) ?_
            refine en_ret ?_
            simp
    · omega
    · omega
    · simp [H26, und, List.replicate]
  · simp at hs
    refine en_seq_cond (t := true) (by simp [bV, hs]) (fun _ => ?_) (fun h => by simp at h)
    refine en_assoc ?_
    refine en_seq_reg rfl (by simp; rfl) ?_
    refine en_seq_ret ?_
    simp [com, hs]
end
theorem v21 : Impl Tryd.prog G 21 G36 := impl_of (T := Av.tab [(36, G36)]) mixed htt (Av.tab_ok ⟨v36, trivial⟩) Tryd.func21 body21 (by kernel_rfl) fun ps r ho hF => by
  obtain ⟨x, rfl, h⟩ := lift_inv hF
  injection h with h
  subst h
  exact ⟨_, _, _, w21 _ _ x.2.1 x.2.2 rfl⟩
noncomputable def G25 := lift (fun x : { x : (Hs × Hs) × Hs // x.1.1.length ≤ 10000 ∧ x.1.2.length ≤ 10000 ∧ x.2.length ≤ 10000 } => [fcP x.1.1.1 x.1.1.2, .one (hxC x.1.2)]) fun x => some (iP (com x.1.1.1 x.1.1.2 x.1.2), [])
theorem G25_inj (x y : { x : (Hs × Hs) × Hs // x.1.1.length ≤ 10000 ∧ x.1.2.length ≤ 10000 ∧ x.2.length ≤ 10000 }) (h : (fun x : { x : (Hs × Hs) × Hs // x.1.1.length ≤ 10000 ∧ x.1.2.length ≤ 10000 ∧ x.2.length ≤ 10000 } => ([fcP x.1.1.1 x.1.1.2, .one (hxC x.1.2)] : List PV)) x = (fun x : { x : (Hs × Hs) × Hs // x.1.1.length ≤ 10000 ∧ x.1.2.length ≤ 10000 ∧ x.2.length ≤ 10000 } => ([fcP x.1.1.1 x.1.1.2, .one (hxC x.1.2)] : List PV)) y) : x = y := by
  simp at h
  exact Subtype.ext (Prod.ext (Prod.ext (hxs_inj h.1.1) (hxs_inj h.1.2)) (hxs_inj h.2))
theorem G25_eq {b h l : Hs} (n1 : b.length ≤ 10000) (n2 : h.length ≤ 10000) (n3 : l.length ≤ 10000) : G25 [fcP b h, .one (hxC l)] = some (iP (com b h l), []) := lift_eq G25_inj ⟨((b, h), l), n1, n2, n3⟩
theorem v25 : Impl Tryd.prog G 25 G25 := impl_of (T := Av.tab [(13, G13), (36, G36)]) mixed htt (Av.tab_ok ⟨v13, v36, trivial⟩) Tryd.func25 body25 (by kernel_rfl) fun ps r ho hF => by
  obtain ⟨x, rfl, h⟩ := lift_inv hF
  injection h with h
  subst h
  exact ⟨_, _, _, w25 _ _ _ x.2.1 x.2.2.1 x.2.2.2 rfl rfl⟩
theorem v26 : Impl Tryd.prog G 26 G25 := impl_of (T := Av.tab [(14, G13)]) mixed htt (Av.tab_ok ⟨v14, trivial⟩) Tryd.func26 body26 (by kernel_rfl) fun ps r ho hF => by
  obtain ⟨x, rfl, h⟩ := lift_inv hF
  injection h with h
  subst h
  exact ⟨_, _, _, w26 _ _ _ x.2.1 x.2.2.1 x.2.2.2 rfl⟩
noncomputable def fol (b h l f : Hs) : Hs × Hs × Int := if sound b h = true then ext hdr (b.take (com b h l)) (h.take (com b h l)) (l.drop (com b h l)) f else ([], [], 6)
section
variable {T : Tab}
theorem w27 (b h l f : Hs) (n1 : b.length ≤ 10000) (n2 : h.length ≤ 10000) (n3 : l.length ≤ 10000) (n4 : f.length ≤ 10000) (h25 : T 25 = some G25) (h23 : T 23 = some G23) (h11 : T 11 = some G11) : execFn tt T G kp0 false 0 Tryd.f27 [fcP b h, .one (hxC l), .one (hxC f)] = some (rsP (fol b h l f), []) := by
  refine fn_ends body27 ?_
  unfold c27
  rw [Tryd.ntmps27]
  have e25 := G25_eq n1 n2 n3
  have e23 := G23_eq (n := (com b h l : Int)) n1 n2
  have hp := pfx_le b l
  by_cases hs : sound b h = true
  · have hs' := sound_iff.1 hs
    have hc : com b h l = pfx b l := by simp [com, hs]
    have hr : rew b h (com b h l) = (b.take (com b h l), h.take (com b h l), 0) := by simp [rew, hs]; omega
    have e11 := G11_eq (b := b.take (com b h l)) (h := h.take (com b h l)) (l := l.drop (com b h l)) (f := f) (by simp; omega) (by simp; omega) (by simp; omega) n4
    have hf : fol b h l f = ext hdr (b.take (com b h l)) (h.take (com b h l)) (l.drop (com b h l)) f := by simp [fol, hs]
    rw [hf]
    rw [hr] at e23
    have hcl : com b h l ≤ l.length := by omega
    generalize com b h l = n at *
    generalize ext hdr (b.take n) (h.take n) (l.drop n) f = R at *
    refine en_seq_reg rfl (by simp; rfl) ?_
    refine en_seq_reg rfl (by simp [h25, e25]; rfl) ?_
    refine en_seq_reg rfl (by simp [h23, e23]; rfl) ?_
    refine en_assoc ?_
    refine en_seq_reg rfl (by simp; rfl) ?_
    refine en_seq_cond (t := false) (by simp [bV]) (fun h => by simp at h) (fun _ => ?_)
    refine en_seq_skip ?_
    refine en_seq_draw rfl (by simp [h11, e11, hcl, hxs_take, hxs_drop, hxs_allT l]; exact ⟨rfl, rfl⟩) (by kernel_rfl) ?_
    refine en_ret ?_
    simp
  · simp at hs
    have hc : com b h l = 0 := by simp [com, hs]
    have hr : rew b h (com b h l) = ([], [], 6) := by simp [rew, hs]
    have hf : fol b h l f = ([], [], 6) := by simp [fol, hs]
    rw [hf]
    rw [hr] at e23
    rw [hc] at e23 e25
    have e23' : G23 [fcP b h, iP 0] = some (rsP ([], [], 6), []) := e23
    have e25' : G25 [fcP b h, .one (hxC l)] = some (iP 0, []) := e25
    refine en_seq_reg rfl (by simp; rfl) ?_
    refine en_seq_reg rfl (by simp [h25, e25']; rfl) ?_
    refine en_seq_reg rfl (by simp [h23, e23']; rfl) ?_
    refine en_assoc ?_
    refine en_seq_reg rfl (by simp; rfl) ?_
    refine en_seq_cond (t := true) (by simp [bV]) (fun _ => ?_) (fun h => by simp at h)
    refine en_assoc ?_
    refine en_seq_reg rfl (by simp; rfl) ?_
    refine en_seq_ret ?_
    simp
theorem w28 (b h l f : Hs) (n1 : b.length ≤ 10000) (n2 : h.length ≤ 10000) (n3 : l.length ≤ 10000) (n4 : f.length ≤ 10000) (h25 : T 26 = some G25) (h23 : T 24 = some G23) (h11 : T 12 = some G11) : execFn tt T G kp0 false 0 Tryd.f28 [fcP b h, .one (hxC l), .one (hxC f)] = some (rsP (fol b h l f), []) := by
  refine fn_ends body28 ?_
  unfold c28
  rw [Tryd.ntmps28]
  have e25 := G25_eq n1 n2 n3
  have e23 := G23_eq (n := (com b h l : Int)) n1 n2
  have hp := pfx_le b l
  by_cases hs : sound b h = true
  · have hs' := sound_iff.1 hs
    have hc : com b h l = pfx b l := by simp [com, hs]
    have hr : rew b h (com b h l) = (b.take (com b h l), h.take (com b h l), 0) := by simp [rew, hs]; omega
    have e11 := G11_eq (b := b.take (com b h l)) (h := h.take (com b h l)) (l := l.drop (com b h l)) (f := f) (by simp; omega) (by simp; omega) (by simp; omega) n4
    have hf : fol b h l f = ext hdr (b.take (com b h l)) (h.take (com b h l)) (l.drop (com b h l)) f := by simp [fol, hs]
    rw [hf]
    rw [hr] at e23
    have hcl : com b h l ≤ l.length := by omega
    generalize com b h l = n at *
    generalize ext hdr (b.take n) (h.take n) (l.drop n) f = R at *
    refine en_seq_reg rfl (by simp; rfl) ?_
    refine en_seq_reg rfl (by simp [h25, e25]; rfl) ?_
    refine en_seq_reg rfl (by simp [h23, e23]; rfl) ?_
    refine en_assoc ?_
    refine en_seq_reg rfl (by simp; rfl) ?_
    refine en_seq_cond (t := false) (by simp [bV]) (fun h => by simp at h) (fun _ => ?_)
    refine en_seq_skip ?_
    refine en_seq_draw rfl (by simp [h11, e11, hcl, hxs_take, hxs_drop, hxs_allT l]; exact ⟨rfl, rfl⟩) (by kernel_rfl) ?_
    refine en_ret ?_
    simp
  · simp at hs
    have hc : com b h l = 0 := by simp [com, hs]
    have hr : rew b h (com b h l) = ([], [], 6) := by simp [rew, hs]
    have hf : fol b h l f = ([], [], 6) := by simp [fol, hs]
    rw [hf]
    rw [hr] at e23
    rw [hc] at e23 e25
    have e23' : G23 [fcP b h, iP 0] = some (rsP ([], [], 6), []) := e23
    have e25' : G25 [fcP b h, .one (hxC l)] = some (iP 0, []) := e25
    refine en_seq_reg rfl (by simp; rfl) ?_
    refine en_seq_reg rfl (by simp [h25, e25']; rfl) ?_
    refine en_seq_reg rfl (by simp [h23, e23']; rfl) ?_
    refine en_assoc ?_
    refine en_seq_reg rfl (by simp; rfl) ?_
    refine en_seq_cond (t := true) (by simp [bV]) (fun _ => ?_) (fun h => by simp at h)
    refine en_assoc ?_
    refine en_seq_reg rfl (by simp; rfl) ?_
    refine en_seq_ret ?_
    simp
end
noncomputable def G27 := lift (fun x : { x : (Hs × Hs) × (Hs × Hs) // x.1.1.length ≤ 10000 ∧ x.1.2.length ≤ 10000 ∧ x.2.1.length ≤ 10000 ∧ x.2.2.length ≤ 10000 } => [fcP x.1.1.1 x.1.1.2, .one (hxC x.1.2.1), .one (hxC x.1.2.2)]) fun x => some (rsP (fol x.1.1.1 x.1.1.2 x.1.2.1 x.1.2.2), [])
theorem G27_inj (x y : { x : (Hs × Hs) × (Hs × Hs) // x.1.1.length ≤ 10000 ∧ x.1.2.length ≤ 10000 ∧ x.2.1.length ≤ 10000 ∧ x.2.2.length ≤ 10000 }) (h : (fun x : { x : (Hs × Hs) × (Hs × Hs) // x.1.1.length ≤ 10000 ∧ x.1.2.length ≤ 10000 ∧ x.2.1.length ≤ 10000 ∧ x.2.2.length ≤ 10000 } => ([fcP x.1.1.1 x.1.1.2, .one (hxC x.1.2.1), .one (hxC x.1.2.2)] : List PV)) x = (fun x : { x : (Hs × Hs) × (Hs × Hs) // x.1.1.length ≤ 10000 ∧ x.1.2.length ≤ 10000 ∧ x.2.1.length ≤ 10000 ∧ x.2.2.length ≤ 10000 } => ([fcP x.1.1.1 x.1.1.2, .one (hxC x.1.2.1), .one (hxC x.1.2.2)] : List PV)) y) : x = y := by
  simp at h
  exact Subtype.ext (Prod.ext (Prod.ext (hxs_inj h.1.1) (hxs_inj h.1.2)) (Prod.ext (hxs_inj h.2.1) (hxs_inj h.2.2)))
theorem G27_eq {b h l f : Hs} (n1 : b.length ≤ 10000) (n2 : h.length ≤ 10000) (n3 : l.length ≤ 10000) (n4 : f.length ≤ 10000) : G27 [fcP b h, .one (hxC l), .one (hxC f)] = some (rsP (fol b h l f), []) := lift_eq G27_inj ⟨((b, h), (l, f)), n1, n2, n3, n4⟩
theorem v27 (g0 : G 0 = some (arC .u32 iniA)) (g1 : G 1 = some (arC .u32 kA)) : Impl Tryd.prog G 27 G27 := impl_of (T := Av.tab [(25, G25), (23, G23), (11, G11)]) mixed htt (Av.tab_ok ⟨v25, v23, v11 g0 g1, trivial⟩) Tryd.func27 body27 (by kernel_rfl) fun ps r ho hF => by
  obtain ⟨x, rfl, h⟩ := lift_inv hF
  injection h with h
  subst h
  exact ⟨_, _, _, w27 _ _ _ _ x.2.1 x.2.2.1 x.2.2.2.1 x.2.2.2.2 rfl rfl rfl⟩
theorem v28 : Impl Tryd.prog G 28 G27 := impl_of (T := Av.tab [(26, G25), (24, G23), (12, G11)]) mixed htt (Av.tab_ok ⟨v26, v24, v12, trivial⟩) Tryd.func28 body28 (by kernel_rfl) fun ps r ho hF => by
  obtain ⟨x, rfl, h⟩ := lift_inv hF
  injection h with h
  subst h
  exact ⟨_, _, _, w28 _ _ _ _ x.2.1 x.2.2.1 x.2.2.2.1 x.2.2.2.2 rfl rfl rfl⟩
end Go.Proofs.YtipochhfofhofaaDoor
