import Derived.Test.YtipochhfofhofaaDoorS15
namespace Go.Proofs.YtipochhfofhofaaDoor
open Go.RowKit
open Go.Av
set_option maxRecDepth 100000
set_option linter.unusedSimpArgs false
set_option linter.unusedVariables false
variable {G : Glob}
theorem flatten_step {α : Type} {Ls : List (List α)} {i : Nat} {m : List α} (h : Ls[i]? = some m) : (Ls.take (i + 1)).flatten = (Ls.take i).flatten ++ m := by
  rw [List.take_add_one, h]
  simp
theorem flatten_le {α : Type} (Ls : List (List α)) (i : Nat) : (Ls.take i).flatten.length ≤ Ls.flatten.length := by
  conv => rhs; rw [← List.take_append_drop i Ls]
  rw [List.flatten_append, List.length_append]
  omega
def hrows (Ls : List Hs) : List (List Cell) := Ls.map fun l => [hxC l]
@[simp] theorem hrows_len (Ls : List Hs) : (hrows Ls).length = Ls.length := by simp [hrows]
@[simp] theorem hrows_get (Ls : List Hs) (i : Nat) : (hrows Ls)[i]? = (Ls[i]?).map fun l => [hxC l] := by simp [hrows]
theorem hrows_inj {a b : List Hs} (h : hrows a = hrows b) : a = b := by
  unfold hrows at h
  refine (List.map_inj_right fun a b h => ?_).1 h
  injection h with h
  exact hxC_inj h
def bp (hd : Arr 32 → Arr 32 → Arr 32) (p : Arr 32) (fs : Hs) : Nat → Arr 32
  | 0 => p
  | i + 1 => match fs[i]? with | some f => hd f (bp hd p fs i) | none => bp hd p fs i
def bl (hd : Arr 32 → Arr 32 → Arr 32) (p : Arr 32) (fs : Hs) (i : Nat) : Hs := (List.range i).map fun j => bp hd p fs (j + 1)
@[simp] theorem bl_len (hd : Arr 32 → Arr 32 → Arr 32) (p : Arr 32) (fs : Hs) (i : Nat) : (bl hd p fs i).length = i := by simp [bl]
theorem bl_succ (hd : Arr 32 → Arr 32 → Arr 32) (p : Arr 32) (fs : Hs) (i : Nat) : bl hd p fs (i + 1) = bl hd p fs i ++ [bp hd p fs (i + 1)] := by simp [bl, List.range_succ]
@[simp] theorem bl_zero (hd : Arr 32 → Arr 32 → Arr 32) (p : Arr 32) (fs : Hs) : bl hd p fs 0 = [] := rfl
theorem bp_succ {hd : Arr 32 → Arr 32 → Arr 32} {p : Arr 32} {fs : Hs} {i : Nat} {f : Arr 32} (h : fs[i]? = some f) : bp hd p fs (i + 1) = hd f (bp hd p fs i) := by simp [bp, h]
def batch (hd : Arr 32 → Arr 32 → Arr 32) (p : Arr 32) (fs : Hs) : Hs := bl hd p fs fs.length
@[simp] theorem batch_len (hd : Arr 32 → Arr 32 → Arr 32) (p : Arr 32) (fs : Hs) : (batch hd p fs).length = fs.length := by simp [batch]
def H32 (Ls : List Hs) (l : Hs) (i : Nat) : ASt := ⟨und 3 ++ ([.one (.ms 14 0 0 l.length 32)] ++ (und 2 ++ ([.one (.slice .no (hrows Ls)), iP Ls.length, iP i] ++ (und 8)))), [(14, ⟨0, 32, hxs l, false, true⟩)]⟩
def kp32 : Keep := fun _ => ⟨[3, 6, 7, 8], [14], [(3, none, 14, 32)]⟩
def H16 (fs : Hs) (p : Arr 32) (l : Hs) (i : Nat) : ASt := ⟨und 2 ++ ([.ptr 2 0 0 0 32] ++ (und 2 ++ ([.one (.ms 20 0 0 l.length 32)] ++ (und 2 ++ ([.one (hxC fs), iP fs.length, iP i] ++ (und 12)))))), [(2, ⟨0, 32, [arC .u8 p], false, false⟩), (20, ⟨0, 32, hxs l, false, true⟩)]⟩
def kp16 : Keep := fun _ => ⟨[2, 5, 8, 9, 10], [2, 20], [(5, none, 20, 32)]⟩
section
variable {T : Tab}
theorem w32 (Ls : List Hs) (hl : Ls.flatten.length ≤ 1000000) (hn : Ls.length ≤ 4611686018427387904) : execFn tt T G kp32 false (Ls.length + 1) Tryd.f32 [.one (.slice .no (hrows Ls))] = some (.one (hxC Ls.flatten), []) := by
  refine fn_ends body32 ?_
  unfold c32
  rw [Tryd.ntmps32]
  refine en_seq_reg rfl (by simp; rfl) ?_
  refine en_seq_reg rfl (by simp; rfl) ?_
  refine en_assoc ?_
  refine en_seq_reg rfl (by simp; rfl) ?_
  refine en_seq_block (en_loop (kq := ⟨[3, 6, 7, 8], [14], [(3, none, 14, 32)]⟩) rfl ?_)
  refine it_inv (fun i => H32 Ls (Ls.take i).flatten i) (fun i => i ≤ Ls.length) (fun i => Ls.length - i) ?_ _ 0 _ ?_ ?_ ?_
  · intro i hi
    unfold b32_1 H32
    by_cases hlt : i < Ls.length
    · have hc : Ls[i]? = some Ls[i] := by simp [hlt]
      have hle := flatten_le Ls (i + 1)
      have ht := flatten_step hc
      rw [ht] at hle
      generalize Ls[i] = m at hc ht hle
      generalize hM : (Ls.take i).flatten = M at *
      rw [List.length_append] at hle
      have n1 : (M.length + m.length) * 32 ≤ 140737488355328 := by omega
      have n2 : M.length + m.length ≤ maxLen := by unfold maxLen; omega
      have hz : (i : Int) < Ls.length := by omega
      refine en_seq_reg rfl (by simp [und, List.replicate]; rfl) ?_
      refine en_seq_cond (t := true) (by simp [bV, hz, hlt]) (fun _ => ?_) (fun h => by simp at h)
      refine en_seq_skip ?_
      refine en_seq_block ?_
      refine en_seq_reg rfl (by simp [hc]; rfl) ?_
      refine en_reg rfl (by simp [n1, n2, hxs_append, hxs_allT m]; rfl) ?_
      simp only [outOf, thenQ, if_true]
      refine en_reg rfl (by simp; rfl) ?_
      simp only [outOf, thenQ, if_true]
      have hw : IntKind.i64.wrap ((i : Int) + 1) = i + 1 := wrap_i64 (by omega) (by omega)
      refine ⟨i + 1, by omega, ?_, by omega⟩
      simp [hw, und, List.replicate, ht, hM]
    · obtain rfl : i = Ls.length := by omega
      refine en_seq_reg rfl (by simp [und, List.replicate]; rfl) ?_
      refine en_seq_cond (t := false) (by simp [bV]) (fun h => by simp at h) (fun _ => ?_)
      refine en_seq_exit ?_
      simp only [outOf, thenQ, if_true]
      refine en_seq_reg rfl (by simp; rfl) ?_
      refine en_ret ?_
      simp
  · omega
  · omega
  · simp [H32, und, List.replicate, intsR]
theorem w16 (hd : Arr 32 → Arr 32 → Arr 32) (p : Arr 32) (fs : Hs) (hl : fs.length ≤ 100000) (h31 : T 31 = some G31) (e31 : ∀ f p, G31 [.agg (arC .u8 f), .agg (arC .u8 p)] = some (.agg (arC .u8 (hd f p)), [])) : execFn tt T G kp16 false (fs.length + 1) Tryd.f16 [.agg (arC .u8 p), .one (hxC fs)] = some (.one (hxC (batch hd p fs)), []) := by
  refine fn_ends body16 ?_
  unfold c16
  rw [Tryd.ntmps16]
  refine en_seq_reg rfl (by simp; rfl) ?_
  refine en_seq_reg rfl (by simp; rfl) ?_
  refine en_assoc ?_
  refine en_seq_reg rfl (by simp; rfl) ?_
  refine en_seq_block (en_loop (kq := ⟨[2, 5, 8, 9, 10], [2, 20], [(5, none, 20, 32)]⟩) rfl ?_)
  refine it_inv (fun i => H16 fs (bp hd p fs i) (bl hd p fs i) i) (fun i => i ≤ fs.length) (fun i => fs.length - i) ?_ _ 0 _ ?_ ?_ ?_
  · intro i hi
    unfold b16_1 H16
    by_cases hlt : i < fs.length
    · have hc : fs[i]? = some fs[i] := by simp [hlt]
      generalize fs[i] = m at hc
      have ht := bl_succ hd p fs i
      have hb := bp_succ (hd := hd) (p := p) hc
      have hle := bl_len hd p fs i
      rw [hb] at ht
      have e := e31 m (bp hd p fs i)
      generalize bp hd p fs i = P at *
      generalize bl hd p fs i = M at *
      generalize hd m P = Q at *
      have n1 : (M.length + 1) * 32 ≤ 140737488355328 := by omega
      have n2 : M.length + 1 ≤ maxLen := by unfold maxLen; omega
      have hz : (i : Int) < fs.length := by omega
      have ha : hxs M ++ [arC .u8 Q] = hxs (M ++ [Q]) := by simp [hxs]
      refine en_seq_reg rfl (by simp [und, List.replicate]; rfl) ?_
      refine en_seq_cond (t := true) (by simp [bV, hz, hlt]) (fun _ => ?_) (fun h => by simp at h)
      refine en_seq_skip ?_
      refine en_seq_block ?_
      refine en_seq_reg rfl (by simp [hc]; rfl) ?_
      refine en_seq_reg rfl (by simp [h31, e]; rfl) ?_
      refine en_reg rfl (by simp [n1, n2, ha]; rfl) ?_
      simp only [outOf, thenQ, if_true]
      refine en_reg rfl (by simp; rfl) ?_
      simp only [outOf, thenQ, if_true]
      have hw : IntKind.i64.wrap ((i : Int) + 1) = i + 1 := wrap_i64 (by omega) (by omega)
      refine ⟨i + 1, by omega, ?_, by omega⟩
      simp [hw, und, List.replicate, ht, hb]
    · obtain rfl : i = fs.length := by omega
      refine en_seq_reg rfl (by simp [und, List.replicate]; rfl) ?_
      refine en_seq_cond (t := false) (by simp [bV]) (fun h => by simp at h) (fun _ => ?_)
      refine en_seq_exit ?_
      simp only [outOf, thenQ, if_true]
      refine en_seq_reg rfl (by simp; rfl) ?_
      refine en_ret ?_
      simp [batch]
  · omega
  · omega
  · simp [H16, und, List.replicate, bp]
theorem w17 (hd : Arr 32 → Arr 32 → Arr 32) (p : Arr 32) (fs : Hs) (hl : fs.length ≤ 100000) (h31 : T 35 = some G31) (e31 : ∀ f p, G31 [.agg (arC .u8 f), .agg (arC .u8 p)] = some (.agg (arC .u8 (hd f p)), [])) : execFn tt T G kp16 false (fs.length + 1) Tryd.f17 [.agg (arC .u8 p), .one (hxC fs)] = some (.one (hxC (batch hd p fs)), []) := by
  refine fn_ends body17 ?_
  unfold c17
  rw [Tryd.ntmps17]
  refine en_seq_reg rfl (by simp; rfl) ?_
  refine en_seq_reg rfl (by simp; rfl) ?_
  refine en_assoc ?_
  refine en_seq_reg rfl (by simp; rfl) ?_
  refine en_seq_block (en_loop (kq := ⟨[2, 5, 8, 9, 10], [2, 20], [(5, none, 20, 32)]⟩) rfl ?_)
  refine it_inv (fun i => H16 fs (bp hd p fs i) (bl hd p fs i) i) (fun i => i ≤ fs.length) (fun i => fs.length - i) ?_ _ 0 _ ?_ ?_ ?_
  · intro i hi
    unfold b17_1 H16
    by_cases hlt : i < fs.length
    · have hc : fs[i]? = some fs[i] := by simp [hlt]
      generalize fs[i] = m at hc
      have ht := bl_succ hd p fs i
      have hb := bp_succ (hd := hd) (p := p) hc
      have hle := bl_len hd p fs i
      rw [hb] at ht
      have e := e31 m (bp hd p fs i)
      generalize bp hd p fs i = P at *
      generalize bl hd p fs i = M at *
      generalize hd m P = Q at *
      have n1 : (M.length + 1) * 32 ≤ 140737488355328 := by omega
      have n2 : M.length + 1 ≤ maxLen := by unfold maxLen; omega
      have hz : (i : Int) < fs.length := by omega
      have ha : hxs M ++ [arC .u8 Q] = hxs (M ++ [Q]) := by simp [hxs]
      refine en_seq_reg rfl (by simp [und, List.replicate]; rfl) ?_
      refine en_seq_cond (t := true) (by simp [bV, hz, hlt]) (fun _ => ?_) (fun h => by simp at h)
      refine en_seq_skip ?_
      refine en_seq_block ?_
      refine en_seq_reg rfl (by simp [hc]; rfl) ?_
      refine en_seq_reg rfl (by simp [h31, e]; rfl) ?_
      refine en_reg rfl (by simp [n1, n2, ha]; rfl) ?_
      simp only [outOf, thenQ, if_true]
      refine en_reg rfl (by simp; rfl) ?_
      simp only [outOf, thenQ, if_true]
      have hw : IntKind.i64.wrap ((i : Int) + 1) = i + 1 := wrap_i64 (by omega) (by omega)
      refine ⟨i + 1, by omega, ?_, by omega⟩
      simp [hw, und, List.replicate, ht, hb]
    · obtain rfl : i = fs.length := by omega
      refine en_seq_reg rfl (by simp [und, List.replicate]; rfl) ?_
      refine en_seq_cond (t := false) (by simp [bV]) (fun h => by simp at h) (fun _ => ?_)
      refine en_seq_exit ?_
      simp only [outOf, thenQ, if_true]
      refine en_seq_reg rfl (by simp; rfl) ?_
      refine en_ret ?_
      simp [batch]
  · omega
  · omega
  · simp [H16, und, List.replicate, bp]
theorem w18 (b h : Hs) (hb : b.length ≤ 4611686018427387904) (hh : h.length ≤ 4611686018427387904) (h15 : T 15 = some G15) : execFn tt T G kp0 false 0 Tryd.f18 [.agg [hxC b, hxC h], .agg [hxC b, hxC h]] = some (.one (.v (.bool true)), []) := by
  refine fn_ends body18 ?_
  unfold c18
  rw [Tryd.ntmps18]
  have e1 := G15_eq hb
  have e2 := G15_eq hh
  refine en_seq_reg rfl (by simp; rfl) ?_
  refine en_seq_reg rfl (by simp [h15, e1, e2]; rfl) ?_
  refine en_ret ?_
  simp
end
noncomputable def G32 := lift (fun x : { Ls : List Hs // Ls.flatten.length ≤ 1000000 ∧ Ls.length ≤ 4611686018427387904 } => [.one (.slice .no (hrows x.1))]) fun x => some (.one (hxC x.1.flatten), [])
theorem G32_eq {Ls : List Hs} (h1 : Ls.flatten.length ≤ 1000000) (h2 : Ls.length ≤ 4611686018427387904) : G32 [.one (.slice .no (hrows Ls))] = some (.one (hxC Ls.flatten), []) :=
  lift_eq (enc := fun x : { Ls : List Hs // Ls.flatten.length ≤ 1000000 ∧ Ls.length ≤ 4611686018427387904 } => [.one (.slice .no (hrows x.1))]) (fun a b h => by
    simp at h
    exact Subtype.ext (hrows_inj h)) ⟨Ls, h1, h2⟩
theorem v32 : Impl Tryd.prog G 32 G32 := impl_of (T := Av.tab []) mixed htt (Av.tab_ok trivial) Tryd.func32 body32 (by kernel_rfl) fun ps r ho hF => by
  obtain ⟨x, rfl, h⟩ := lift_inv hF
  injection h with h
  subst h
  exact ⟨_, _, _, w32 x.1 x.2.1 x.2.2⟩
noncomputable def G16 := lift (fun x : { x : Arr 32 × Hs // x.2.length ≤ 100000 } => [.agg (arC .u8 x.1.1), .one (hxC x.1.2)]) fun x => some (.one (hxC (batch hdr x.1.1 x.1.2)), [])
theorem G16_eq {p : Arr 32} {fs : Hs} (h : fs.length ≤ 100000) : G16 [.agg (arC .u8 p), .one (hxC fs)] = some (.one (hxC (batch hdr p fs)), []) := lift_eq (enc := fun x : { x : Arr 32 × Hs // x.2.length ≤ 100000 } => [.agg (arC .u8 x.1.1), .one (hxC x.1.2)]) (fun a b h => by
  simp at h
  exact Subtype.ext (Prod.ext (arC_inj h.1) (hxs_inj h.2))) ⟨(p, fs), h⟩
theorem v16 (g0 : G 0 = some (arC .u32 iniA)) (g1 : G 1 = some (arC .u32 kA)) : Impl Tryd.prog G 16 G16 := impl_of (T := Av.tab [(31, G31)]) mixed htt (Av.tab_ok ⟨v31 g0 g1, trivial⟩) Tryd.func16 body16 (by kernel_rfl) fun ps r ho hF => by
  obtain ⟨x, rfl, h⟩ := lift_inv hF
  injection h with h
  subst h
  exact ⟨_, _, _, w16 hdr x.1.1 x.1.2 x.2 rfl G31_eq⟩
theorem v17 : Impl Tryd.prog G 17 G16 := impl_of (T := Av.tab [(35, G31)]) mixed htt (Av.tab_ok ⟨v35, trivial⟩) Tryd.func17 body17 (by kernel_rfl) fun ps r ho hF => by
  obtain ⟨x, rfl, h⟩ := lift_inv hF
  injection h with h
  subst h
  exact ⟨_, _, _, w17 hdr x.1.1 x.1.2 x.2 rfl G31_eq⟩
noncomputable def G18 := lift (fun x : { x : Hs × Hs // x.1.length ≤ 4611686018427387904 ∧ x.2.length ≤ 4611686018427387904 } => [.agg [hxC x.1.1, hxC x.1.2], .agg [hxC x.1.1, hxC x.1.2]]) fun x => some (.one (.v (.bool true)), [])
theorem G18_eq {b h : Hs} (hb : b.length ≤ 4611686018427387904) (hh : h.length ≤ 4611686018427387904) : G18 [.agg [hxC b, hxC h], .agg [hxC b, hxC h]] = some (.one (.v (.bool true)), []) := lift_eq (enc := fun x : { x : Hs × Hs // x.1.length ≤ 4611686018427387904 ∧ x.2.length ≤ 4611686018427387904 } => [.agg [hxC x.1.1, hxC x.1.2], .agg [hxC x.1.1, hxC x.1.2]]) (fun a b h => by
  simp at h
  exact Subtype.ext (Prod.ext (hxs_inj h.1) (hxs_inj h.2))) ⟨(b, h), hb, hh⟩
theorem v18 : Impl Tryd.prog G 18 G18 := impl_of (T := Av.tab [(15, G15)]) mixed htt (Av.tab_ok ⟨v15, trivial⟩) Tryd.func18 body18 (by kernel_rfl) fun ps r ho hF => by
  obtain ⟨x, rfl, h⟩ := lift_inv hF
  injection h with h
  subst h
  exact ⟨_, _, _, w18 x.1.1 x.1.2 x.2.1 x.2.2 rfl⟩
end Go.Proofs.YtipochhfofhofaaDoor
