import Derived.Test.YtipochhfofhofaaDoorS13
namespace Go.Proofs.YtipochhfofhofaaDoor
open Go.RowKit
open Go.Av
set_option maxRecDepth 100000
set_option linter.unusedSimpArgs false
set_option linter.unusedVariables false
variable {G : Glob}
@[simp] theorem rng1 : ([0] = List.range 1) = True := eq_true (by decide)
@[simp] theorem rng2 : ([0, 1] = List.range 2) = True := eq_true (by decide)
@[simp] theorem rng3 : ([0, 1, 2] = List.range 3) = True := eq_true (by decide)
def hdr (f p : Arr 32) : Arr 32 := dbl (f.l ++ p.l)
section
variable {T : Tab}
theorem w31 (f p D : Arr 32) (B : List Int) (h42 : T 42 = some G42) (h41 : T 41 = some G41) (e42 : G42 [.one (.slice .no [[isC .u8 f.l], [isC .u8 p.l]])] = some (.one (isC .u8 B), [])) (e41 : G41 [.one (isC .u8 B)] = some (.agg (arC .u8 D), []))
    (hf : chunk 1 32 (arC .u8 f) = intsR .u8 f.l) (hp : chunk 1 32 (arC .u8 p) = intsR .u8 p.l) : execFn tt T G kp0 false 0 Tryd.f31 [.agg (arC .u8 f), .agg (arC .u8 p)] = some (.agg (arC .u8 D), []) := by
  refine fn_ends body31 ?_
  unfold c31
  rw [Tryd.ntmps31]
  refine en_seq_reg rfl (by simp; rfl) ?_
  refine en_seq_draw rfl (by simp [h42, h41, e42, e41, hf, hp, m32, -chunk]; exact ⟨rfl, rfl⟩) (by kernel_rfl) ?_
  refine en_ret ?_
  simp
theorem w35 (f p D : Arr 32) (B : List Int) (h44 : T 44 = some G42) (h43 : T 43 = some G41) (e42 : G42 [.one (.slice .no [[isC .u8 f.l], [isC .u8 p.l]])] = some (.one (isC .u8 B), [])) (e41 : G41 [.one (isC .u8 B)] = some (.agg (arC .u8 D), []))
    (hf : chunk 1 32 (arC .u8 f) = intsR .u8 f.l) (hp : chunk 1 32 (arC .u8 p) = intsR .u8 p.l) : execFn tt T G kp0 false 0 Tryd.f35 [.agg (arC .u8 f), .agg (arC .u8 p)] = some (.agg (arC .u8 D), []) := by
  refine fn_ends body35 ?_
  unfold c35
  rw [Tryd.ntmps35]
  refine en_seq_reg rfl (by simp; rfl) ?_
  refine en_seq_draw rfl (by simp [h44, h43, e42, e41, hf, hp, m32, -chunk]; exact ⟨rfl, rfl⟩) (by kernel_rfl) ?_
  refine en_ret ?_
  simp
end
noncomputable def G31 := lift (fun x : Arr 32 × Arr 32 => [.agg (arC .u8 x.1), .agg (arC .u8 x.2)]) fun x => some (.agg (arC .u8 (hdr x.1 x.2)), [])
theorem G31_eq (f p : Arr 32) : G31 [.agg (arC .u8 f), .agg (arC .u8 p)] = some (.agg (arC .u8 (hdr f p)), []) := lift_eq (enc := fun x : Arr 32 × Arr 32 => [.agg (arC .u8 x.1), .agg (arC .u8 x.2)]) (fun a b h => by
  simp at h
  exact Prod.ext (arC_inj h.1) (arC_inj h.2)) (f, p)
theorem e42h (f p : Arr 32) : G42 [.one (.slice .no [[isC .u8 f.l], [isC .u8 p.l]])] = some (.one (isC .u8 (f.l ++ p.l)), []) := by
  have := G42_eq (Ls := [f.l, p.l]) (by simp [f.hl, p.hl]) (by simp)
  simpa [rows] using this
theorem e41h (f p : Arr 32) : G41 [.one (isC .u8 (f.l ++ p.l))] = some (.agg (arC .u8 (hdr f p)), []) := G41_eq (by simp [f.hl, p.hl])
theorem v31 (g0 : G 0 = some (arC .u32 iniA)) (g1 : G 1 = some (arC .u32 kA)) : Impl Tryd.prog G 31 G31 := impl_of (T := Av.tab [(42, G42), (41, G41)]) mixed htt (Av.tab_ok ⟨v42, v41 g0 g1, trivial⟩) Tryd.func31 body31 (by kernel_rfl) fun ps r ho hF => by
  obtain ⟨x, rfl, h⟩ := lift_inv hF
  injection h with h
  subst h
  exact ⟨_, _, _, w31 x.1 x.2 (hdr x.1 x.2) _ rfl rfl (e42h _ _) (e41h _ _) (chunk_arC _) (chunk_arC _)⟩
theorem v35 : Impl Tryd.prog G 35 G31 := impl_of (T := Av.tab [(44, G42), (43, G41)]) mixed htt (Av.tab_ok ⟨v44, v43, trivial⟩) Tryd.func35 body35 (by kernel_rfl) fun ps r ho hF => by
  obtain ⟨x, rfl, h⟩ := lift_inv hF
  injection h with h
  subst h
  exact ⟨_, _, _, w35 x.1 x.2 (hdr x.1 x.2) _ rfl rfl (e42h _ _) (e41h _ _) (chunk_arC _) (chunk_arC _)⟩
end Go.Proofs.YtipochhfofhofaaDoor
