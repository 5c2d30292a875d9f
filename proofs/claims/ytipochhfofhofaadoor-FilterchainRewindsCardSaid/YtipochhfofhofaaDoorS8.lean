import Derived.Test.YtipochhfofhofaaDoorS7
namespace Go.Proofs.YtipochhfofhofaaDoor
open Go.RowKit
open Go.Av
set_option maxRecDepth 100000
set_option linter.unusedSimpArgs false
set_option linter.unusedVariables false
variable {G : Glob}
noncomputable def G59 := lift (fun x : { N : Nat // N ≤ 4611686018427387904 } => [.one (.v (.int .u64 x.1))]) fun x => some (.one (isC .u8 (padL x.1)), [])
theorem G59_eq {N : Nat} (h : N ≤ 4611686018427387904) : G59 [.one (.v (.int .u64 N))] = some (.one (isC .u8 (padL N)), []) := lift_eq (enc := fun x : { N : Nat // N ≤ 4611686018427387904 } => [.one (.v (.int .u64 x.1))]) (fun a b h => by
  simp at h
  exact Subtype.ext (by exact_mod_cast h)) ⟨N, h⟩
theorem v59 : Impl Tryd.prog G 59 G59 := impl_of (T := Av.tab []) mixed htt (Av.tab_ok trivial) Tryd.func59 body59 (by kernel_rfl) fun ps r ho hF => by
  obtain ⟨x, rfl, h⟩ := lift_inv hF
  injection h with h
  subst h
  exact ⟨_, _, _, w59 x.1 x.2⟩
theorem v61 : Impl Tryd.prog G 61 G59 := impl_of (T := Av.tab []) mixed htt (Av.tab_ok trivial) Tryd.func61 body61 (by kernel_rfl) fun ps r ho hF => by
  obtain ⟨x, rfl, h⟩ := lift_inv hF
  injection h with h
  subst h
  exact ⟨_, _, _, w61 x.1 x.2⟩
/-! lists in a row -/
def rows (Ls : List (List Int)) : List (List Cell) := Ls.map fun l => [isC .u8 l]
@[simp] theorem rows_len (Ls : List (List Int)) : (rows Ls).length = Ls.length := by simp [rows]
@[simp] theorem rows_get (Ls : List (List Int)) (i : Nat) : (rows Ls)[i]? = (Ls[i]?).map fun l => [isC .u8 l] := by simp [rows]
@[simp] theorem rows_getE (Ls : List (List Int)) (i : Nat) (h : i < (rows Ls).length) : (rows Ls)[i] = [isC .u8 (Ls[i]'(by simpa using h))] := by simp [rows]
theorem rows_inj {a b : List (List Int)} (h : rows a = rows b) : a = b := by
  unfold rows at h
  refine (List.map_inj_right fun a b h => ?_).1 h
  injection h with h
  injection h with _ h
  exact intsR_inj h
def H58 (Ls : List (List Int)) (l : List Int) (i : Nat) : ASt := ⟨und 3 ++ ([.one (.ms 14 0 0 l.length 1)] ++ (und 2 ++ ([.one (.slice .no (rows Ls)), iP Ls.length, iP i] ++ (und 8)))), [(14, ⟨0, 1, intsR .u8 l, false, true⟩)]⟩
def kp58 : Keep := fun _ => ⟨[3, 6, 7, 8], [14], [(3, none, 14, 1)]⟩
section
variable {T : Tab}
theorem w58 (Ls : List (List Int)) (hl : Ls.flatten.length ≤ 140737488355328) (hn : Ls.length ≤ 4611686018427387904) : execFn tt T G kp58 false (Ls.length + 1) Tryd.f58 [.one (.slice .no (rows Ls))] = some (.one (isC .u8 Ls.flatten), []) := by
  refine fn_ends body58 ?_
  unfold c58
  rw [Tryd.ntmps58]
  refine en_seq_reg rfl (by simp; rfl) ?_
  refine en_seq_reg rfl (by simp; rfl) ?_
  refine en_assoc ?_
  refine en_seq_reg rfl (by simp; rfl) ?_
  refine en_seq_block (en_loop (kq := ⟨[3, 6, 7, 8], [14], [(3, none, 14, 1)]⟩) rfl ?_)
  refine it_inv (fun i => H58 Ls (Ls.take i).flatten i) (fun i => i ≤ Ls.length) (fun i => Ls.length - i) ?_ _ 0 _ ?_ ?_ ?_
  · intro i hi
    unfold b58_1 H58
    by_cases hlt : i < Ls.length
    · have hc : Ls[i]? = some Ls[i] := by simp [hlt]
      have ht : Ls.take (i + 1) = Ls.take i ++ [Ls[i]] := by rw [List.take_add_one, hc]; rfl
      have hle : (Ls.take (i + 1)).flatten.length ≤ 140737488355328 := by
        have h2 : Ls.flatten = (Ls.take (i + 1)).flatten ++ (Ls.drop (i + 1)).flatten := by rw [← List.flatten_append, List.take_append_drop]
        rw [h2, List.length_append] at hl
        omega
      rw [ht] at hle
      generalize Ls[i] = m at hc ht hle
      generalize hM : (Ls.take i).flatten = M at *
      simp [hM] at hle
      have n1 : M.length + m.length ≤ 140737488355328 := by omega
      have n2 : M.length + m.length ≤ maxLen := by unfold maxLen; omega
      have hz : (i : Int) < Ls.length := by omega
      refine en_seq_reg rfl (by simp [und, List.replicate]; rfl) ?_
      refine en_seq_cond (t := true) (by simp [bV, hz, hlt]) (fun _ => ?_) (fun h => by simp at h)
      refine en_seq_skip ?_
      refine en_seq_block ?_
      refine en_seq_reg rfl (by simp [hc]; rfl) ?_
      have hall : (∀ l : List Cell, l ∈ intsR .u8 m → l.length = 1) = True := eq_true (fun l h => intsR_all l h)
      refine en_reg rfl (by simp [n1, n2, intsR_append, hall]; rfl) ?_
      simp only [outOf, thenQ, if_true]
      refine en_reg rfl (by simp; rfl) ?_
      simp only [outOf, thenQ, if_true]
      have hw : IntKind.i64.wrap ((i : Int) + 1) = i + 1 := wrap_i64 (by omega) (by omega)
      refine ⟨i + 1, by omega, ?_, by omega⟩
      simp [hw, und, List.replicate, ht, hM]
    · obtain rfl : i = Ls.length := by omega
      refine en_seq_reg rfl (by simp [und, List.replicate]; rfl) ?_
      refine en_seq_cond (t := false) (by simp [bV]) (fun h => by simp at h) (fun _ => ?_)
      refine en_seq_exit ?_
      simp only [outOf, thenQ, if_true]
      refine en_seq_reg rfl (by simp; rfl) ?_
      refine en_ret ?_
      simp
  · omega
  · omega
  · simp [H58, und, List.replicate, intsR]
end
noncomputable def G58 := lift (fun x : { Ls : List (List Int) // Ls.flatten.length ≤ 140737488355328 ∧ Ls.length ≤ 4611686018427387904 } => [.one (.slice .no (rows x.1))]) fun x => some (.one (isC .u8 x.1.flatten), [])
theorem G58_eq {Ls : List (List Int)} (h1 : Ls.flatten.length ≤ 140737488355328) (h2 : Ls.length ≤ 4611686018427387904) : G58 [.one (.slice .no (rows Ls))] = some (.one (isC .u8 Ls.flatten), []) :=
  lift_eq (enc := fun x : { Ls : List (List Int) // Ls.flatten.length ≤ 140737488355328 ∧ Ls.length ≤ 4611686018427387904 } => [.one (.slice .no (rows x.1))]) (fun a b h => by
    simp at h
    exact Subtype.ext (rows_inj h)) ⟨Ls, h1, h2⟩
theorem v58 : Impl Tryd.prog G 58 G58 := impl_of (T := Av.tab []) mixed htt (Av.tab_ok trivial) Tryd.func58 body58 (by kernel_rfl) fun ps r ho hF => by
  obtain ⟨x, rfl, h⟩ := lift_inv hF
  injection h with h
  subst h
  exact ⟨_, _, _, w58 x.1 x.2.1 x.2.2⟩
end Go.Proofs.YtipochhfofhofaaDoor
