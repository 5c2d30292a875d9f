import Derived.Test.YtipochhfofhofaaDoorS12
namespace Go.Proofs.YtipochhfofhofaaDoor
open Go.RowKit
open Go.Av
set_option maxRecDepth 100000
set_option linter.unusedSimpArgs false
set_option linter.unusedVariables false
variable {G : Glob}
theorem flat_step {Ls : List (List Int)} {i : Nat} {m : List Int} (h : Ls[i]? = some m) : (Ls.take (i + 1)).flatten = (Ls.take i).flatten ++ m := by
  rw [List.take_add_one, h]
  simp
theorem flat_le (Ls : List (List Int)) (i : Nat) : (Ls.take i).flatten.length ≤ Ls.flatten.length := by
  conv => rhs; rw [← List.take_append_drop i Ls]
  rw [List.flatten_append, List.length_append]
  omega
def H42 (Ls : List (List Int)) (s i : Nat) : ASt := ⟨[.one (.slice .no (rows Ls))] ++ (und 2 ++ ([iP s] ++ (und 5 ++ ([.one (.slice .no (rows Ls)), iP Ls.length, iP i] ++ (und 24))))), []⟩
def H42b (Ls : List (List Int)) (l : List Int) (i : Nat) : ASt := ⟨und 6 ++ ([.one (.ms 24 0 0 l.length 1)] ++ (und 18 ++ ([.one (.slice .no (rows Ls)), iP Ls.length, iP i] ++ (und 8)))), [(24, ⟨0, 1, intsR .u8 l, false, true⟩)]⟩
def kp42 : Keep := fun n => if n = 3 then ⟨[0, 3, 9, 10, 11], [], []⟩ else ⟨[6, 25, 26, 27], [24], []⟩
section
variable {T : Tab}
theorem w42 (Ls : List (List Int)) (hl : Ls.flatten.length ≤ 70368744177664) (hn : Ls.length ≤ 4611686018427387904) (h50 : T 50 = none) (h50' : T 1000050 = some G50) : execFn tt T G kp42 false (Ls.length + 1) Tryd.f42 [.one (.slice .no (rows Ls))] = some (.one (isC .u8 Ls.flatten), []) := by
  refine fn_ends body42 ?_
  unfold c42
  rw [Tryd.ntmps42]
  refine en_seq_reg rfl (by simp; rfl) ?_
  refine en_seq_reg rfl (by simp; rfl) ?_
  refine en_assoc ?_
  refine en_seq_reg rfl (by simp; rfl) ?_
  refine en_seq_block (en_loop (kq := ⟨[0, 3, 9, 10, 11], [], []⟩) rfl ?_)
  refine it_inv (fun i => H42 Ls (Ls.take i).flatten.length i) (fun i => i ≤ Ls.length) (fun i => Ls.length - i) ?_ _ 0 _ ?_ ?_ ?_
  · intro i hi
    unfold b42_1 H42
    by_cases hlt : i < Ls.length
    · have hc : Ls[i]? = some Ls[i] := by simp [hlt]
      have hle := flat_le Ls (i + 1)
      have ht := flat_step hc
      rw [ht] at hle
      generalize Ls[i] = m at hc ht hle
      generalize hM : (Ls.take i).flatten = M at *
      rw [List.length_append] at hle
      have hz : (i : Int) < Ls.length := by omega
      have hw2 : IntKind.i64.wrap ((M.length : Int) + m.length) = ((M.length + m.length : Nat) : Int) := by rw [wrap_i64 (by omega) (by omega)]; omega
      have hng : (0 : Int) ≤ M.length + m.length := by omega
      refine en_seq_reg rfl (by simp [und, List.replicate]; rfl) ?_
      refine en_seq_cond (t := true) (by simp [bV, hz, hlt]) (fun _ => ?_) (fun h => by simp at h)
      refine en_seq_skip ?_
      refine en_seq_block ?_
      refine en_seq_reg rfl (by simp [hc]; rfl) ?_
      refine en_seq_reg rfl (by simp [hw2]; rfl) ?_
      refine en_seq_reg rfl (by simp; rfl) ?_
      refine en_cond (t := false) (by simp [bV, hng]) (fun h => by simp at h) (fun _ => ?_)
      refine en_skip ?_
      simp only [outOf, thenQ, if_true]
      refine en_reg rfl (by simp; rfl) ?_
      simp only [outOf, thenQ, if_true]
      have hw : IntKind.i64.wrap ((i : Int) + 1) = i + 1 := wrap_i64 (by omega) (by omega)
      refine ⟨i + 1, by omega, ?_, by omega⟩
      simp [hw, und, List.replicate, ht, hM]
    · obtain rfl : i = Ls.length := by omega
      have e50 := G50_eq hl
      rw [List.take_length]
      generalize Ls.flatten.length = N at e50 ⊢
      refine en_seq_reg rfl (by simp [und, List.replicate]; rfl) ?_
      refine en_seq_cond (t := false) (by simp [bV]) (fun h => by simp at h) (fun _ => ?_)
      refine en_seq_exit ?_
      simp only [outOf, thenQ, if_true]
      refine en_seq_reg rfl (by simp [h50, h50', e50]; rfl) ?_
      refine en_assoc ?_
      refine en_seq_reg rfl (by simp; rfl) ?_
      refine en_seq_block (en_loop (kq := ⟨[6, 25, 26, 27], [24], []⟩) rfl ?_)
      refine it_inv (fun i => H42b Ls (Ls.take i).flatten i) (fun i => i ≤ Ls.length) (fun i => Ls.length - i) ?_ _ 0 _ ?_ ?_ ?_
      · intro i hi
        unfold b42_2 H42b
        by_cases hlt : i < Ls.length
        · have hc : Ls[i]? = some Ls[i] := by simp [hlt]
          have hle := flat_le Ls (i + 1)
          have ht := flat_step hc
          rw [ht] at hle
          generalize Ls[i] = m at hc ht hle
          generalize hM : (Ls.take i).flatten = M at *
          rw [List.length_append] at hle
          have n1 : M.length + m.length ≤ 140737488355328 := by omega
          have n2 : M.length + m.length ≤ maxLen := by unfold maxLen; omega
          have hz : (i : Int) < Ls.length := by omega
          refine en_seq_reg rfl (by simp [und, List.replicate]; rfl) ?_
          refine en_seq_cond (t := true) (by simp [bV, hz, hlt]) (fun _ => ?_) (fun h => by simp at h)
          refine en_seq_skip ?_
          refine en_seq_block ?_
          refine en_seq_reg rfl (by simp [hc]; rfl) ?_
          have hall : (∀ l : List Cell, l ∈ intsR .u8 m → l.length = 1) = True := eq_true (fun l h => intsR_all l h)
          refine en_reg rfl (by simp [n1, n2, intsR_append, hall]; rfl) ?_
          simp only [outOf, thenQ, if_true]
          refine en_reg rfl (by simp; rfl) ?_
          simp only [outOf, thenQ, if_true]
          have hw : IntKind.i64.wrap ((i : Int) + 1) = i + 1 := wrap_i64 (by omega) (by omega)
          refine ⟨i + 1, by omega, ?_, by omega⟩
          simp [hw, und, List.replicate, ht, hM]
        · obtain rfl : i = Ls.length := by omega
          refine en_seq_reg rfl (by simp [und, List.replicate]; rfl) ?_
          refine en_seq_cond (t := false) (by simp [bV]) (fun h => by simp at h) (fun _ => ?_)
          refine en_seq_exit ?_
          simp only [outOf, thenQ, if_true]
          refine en_seq_reg rfl (by simp; rfl) ?_
          refine en_ret ?_
          simp
      · omega
      · omega
      · simp [H42b, und, List.replicate, intsR]
  · omega
  · omega
  · simp [H42, und, List.replicate, intsR]

theorem w52 (a b : List Int) (hl : a.length + b.length ≤ 70368744177664) : execFn tt T G kp0 false 0 Tryd.f52 [.one (isC .u8 a), .one (isC .u8 b)] = some (.one (isC .u8 (a ++ b)), []) := by
  refine fn_ends body52 ?_
  unfold c52
  rw [Tryd.ntmps52]
  have hw : IntKind.i64.wrap ((a.length : Int) + b.length) = ((a.length + b.length : Nat) : Int) := by rw [wrap_i64 (by omega) (by omega)]; omega
  have n1 : a.length + b.length ≤ 140737488355328 := by omega
  have n2 : a.length + b.length ≤ maxLen := by unfold maxLen; omega
  have n3 : a.length ≤ 140737488355328 := by omega
  have n4 : a.length ≤ maxLen := by unfold maxLen; omega
  have n5 : a.length + b.length ≤ 9223372036854775807 := by omega
  have n6 : (0 : Int) ≤ a.length + b.length := by omega
  have n7 : ((a.length : Int) + b.length).toNat = a.length + b.length := by omega
  refine en_seq_reg rfl (by simp; rfl) ?_
  refine en_seq_reg rfl (by simp [hw, n1, n5, n6, n7]; rfl) ?_
  refine en_seq_reg rfl (by simp [intsR_allT .u8 a, intsR_allT .u8 b, n1, n2, n3, n4, intsR_append]; rfl) ?_
  refine en_ret ?_
  simp
end
noncomputable def G52 := lift (fun x : { x : List Int × List Int // x.1.length + x.2.length ≤ 70368744177664 } => [.one (isC .u8 x.1.1), .one (isC .u8 x.1.2)]) fun x => some (.one (isC .u8 (x.1.1 ++ x.1.2)), [])
theorem G52_eq {a b : List Int} (h : a.length + b.length ≤ 70368744177664) : G52 [.one (isC .u8 a), .one (isC .u8 b)] = some (.one (isC .u8 (a ++ b)), []) := lift_eq (enc := fun x : { x : List Int × List Int // x.1.length + x.2.length ≤ 70368744177664 } => [.one (isC .u8 x.1.1), .one (isC .u8 x.1.2)]) (fun a b h => by
  simp at h
  exact Subtype.ext (Prod.ext (intsR_inj h.1) (intsR_inj h.2))) ⟨(a, b), h⟩
theorem v52 : Impl Tryd.prog G 52 G52 := impl_of (T := Av.tab []) mixed htt (Av.tab_ok trivial) Tryd.func52 body52 (by kernel_rfl) fun ps r ho hF => by
  obtain ⟨x, rfl, h⟩ := lift_inv hF
  injection h with h
  subst h
  exact ⟨_, _, _, w52 x.1.1 x.1.2 x.2⟩
def own0 (i : Nat) : Own := if i = 0 then .nil else .no
def H44 (Ls : List (List Int)) (l : List Int) (i : Nat) : ASt := ⟨und 3 ++ ([.one (.slice (own0 i) (intsR .u8 l))] ++ (und 2 ++ ([.one (.slice .no (rows Ls)), iP Ls.length, iP i] ++ (und 8)))), []⟩
def kp44 : Keep := fun n => ⟨[3, 6, 7, 8], [], []⟩
section
variable {T : Tab}
theorem w44 (Ls : List (List Int)) (hl : Ls.flatten.length ≤ 70368744177664) (hn : Ls.length ≤ 4611686018427387904) (h52 : T 52 = some G52) : execFn tt T G kp44 false (Ls.length + 1) Tryd.f44 [.one (.slice .no (rows Ls))] = some (.one (isC .u8 Ls.flatten), []) := by
  refine fn_ends body44 ?_
  unfold c44
  rw [Tryd.ntmps44]
  refine en_seq_reg rfl (by simp; rfl) ?_
  refine en_seq_reg rfl (by simp; rfl) ?_
  refine en_assoc ?_
  refine en_seq_reg rfl (by simp; rfl) ?_
  refine en_seq_block (en_loop (kq := ⟨[3, 6, 7, 8], [], []⟩) rfl ?_)
  refine it_inv (fun i => H44 Ls (Ls.take i).flatten i) (fun i => i ≤ Ls.length) (fun i => Ls.length - i) ?_ _ 0 _ ?_ ?_ ?_
  · intro i hi
    unfold b44_1 H44
    generalize hO : own0 i = O
    by_cases hlt : i < Ls.length
    · have hc : Ls[i]? = some Ls[i] := by simp [hlt]
      have hle := flat_le Ls (i + 1)
      have ht := flat_step hc
      rw [ht] at hle
      generalize Ls[i] = m at hc ht hle
      generalize hM : (Ls.take i).flatten = M at *
      rw [List.length_append] at hle
      have hz : (i : Int) < Ls.length := by omega
      have e52 := G52_eq (a := M) (b := m) (by omega)
      refine en_seq_reg rfl (by simp [und, List.replicate]; rfl) ?_
      refine en_seq_cond (t := true) (by simp [bV, hz, hlt]) (fun _ => ?_) (fun h => by simp at h)
      refine en_seq_skip ?_
      refine en_seq_block ?_
      refine en_seq_reg rfl (by simp [hc]; rfl) ?_
      refine en_reg rfl (by simp [h52, e52]; rfl) ?_
      simp only [outOf, thenQ, if_true]
      refine en_reg rfl (by simp; rfl) ?_
      simp only [outOf, thenQ, if_true]
      have hw : IntKind.i64.wrap ((i : Int) + 1) = i + 1 := wrap_i64 (by omega) (by omega)
      refine ⟨i + 1, by omega, ?_, by omega⟩
      simp [hw, und, List.replicate, ht, hM, own0]
    · obtain rfl : i = Ls.length := by omega
      refine en_seq_reg rfl (by simp [und, List.replicate]; rfl) ?_
      refine en_seq_cond (t := false) (by simp [bV]) (fun h => by simp at h) (fun _ => ?_)
      refine en_seq_exit ?_
      simp only [outOf, thenQ, if_true]
      refine en_seq_reg rfl (by simp; rfl) ?_
      refine en_ret ?_
      simp
  · omega
  · omega
  · simp [H44, und, List.replicate, intsR, own0]
end
noncomputable def G42 := lift (fun x : { Ls : List (List Int) // Ls.flatten.length ≤ 70368744177664 ∧ Ls.length ≤ 4611686018427387904 } => [.one (.slice .no (rows x.1))]) fun x => some (.one (isC .u8 x.1.flatten), [])
theorem G42_eq {Ls : List (List Int)} (h1 : Ls.flatten.length ≤ 70368744177664) (h2 : Ls.length ≤ 4611686018427387904) : G42 [.one (.slice .no (rows Ls))] = some (.one (isC .u8 Ls.flatten), []) :=
  lift_eq (enc := fun x : { Ls : List (List Int) // Ls.flatten.length ≤ 70368744177664 ∧ Ls.length ≤ 4611686018427387904 } => [.one (.slice .no (rows x.1))]) (fun a b h => by
    simp at h
    exact Subtype.ext (rows_inj h)) ⟨Ls, h1, h2⟩
theorem v42 : Impl Tryd.prog G 42 G42 := impl_of (T := Av.tab [(1000050, G50)]) mixed htt (Av.tab_ok ⟨v50, trivial⟩) Tryd.func42 body42 (by kernel_rfl) fun ps r ho hF => by
  obtain ⟨x, rfl, h⟩ := lift_inv hF
  injection h with h
  subst h
  exact ⟨_, _, _, w42 x.1 x.2.1 x.2.2 rfl rfl⟩
theorem v44 : Impl Tryd.prog G 44 G42 := impl_of (T := Av.tab [(52, G52)]) mixed htt (Av.tab_ok ⟨v52, trivial⟩) Tryd.func44 body44 (by kernel_rfl) fun ps r ho hF => by
  obtain ⟨x, rfl, h⟩ := lift_inv hF
  injection h with h
  subst h
  exact ⟨_, _, _, w44 x.1 x.2.1 x.2.2 rfl⟩
end Go.Proofs.YtipochhfofhofaaDoor
