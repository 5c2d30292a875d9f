import Derived.Test.YtipochhfofhofaaDoorS17
namespace Go.Proofs.YtipochhfofhofaaDoor
open Go.RowKit
open Go.Av
set_option maxRecDepth 100000
set_option linter.unusedSimpArgs false
set_option linter.unusedVariables false
variable {G : Glob}
def H36 (a b : Hs) (i : Nat) : ASt := ⟨[.one (hxC a), .one (hxC b)] ++ (und 8 ++ ([iP (max a.length b.length : Nat), iP i] ++ (und 25))), []⟩
def kp36 : Keep := fun n => ⟨[0, 1, 10, 11], [], []⟩
def H22 (a b : Hs) (i : Nat) : ASt := ⟨[.one (hxC a), .one (hxC b)] ++ (und 3 ++ ([iP i] ++ (und 34))), []⟩
def kp22 : Keep := fun n => ⟨[0, 1, 5], [], []⟩
section
variable {T : Tab}
theorem max_i (x y : Nat) : (if (y : Int) > x then (y : Int) else x) = ((max x y : Nat) : Int) := by
  split <;> omega
theorem w36 (a b : Hs) (na : a.length ≤ 1000000) (nb : b.length ≤ 1000000) : execFn tt T G kp36 false (max a.length b.length + 1) Tryd.f36 [.one (hxC a), .one (hxC b)] = some (iP (difF a b), []) := by
  refine fn_ends body36 ?_
  unfold c36
  rw [Tryd.ntmps36]
  have hm := max_i a.length b.length
  have hp := pfx_le a b
  refine en_seq_reg rfl (by simp; rfl) ?_
  refine en_assoc ?_
  refine en_seq_reg rfl (by simp [hm]; rfl) ?_
  refine en_seq_block (en_loop (kq := ⟨[0, 1, 10, 11], [], []⟩) rfl ?_)
  refine it_inv (fun i => H36 a b i) (fun i => i ≤ pfx a b) (fun i => max a.length b.length - i) ?_ _ 0 _ ?_ ?_ ?_
  · intro i hi
    unfold b36_1 H36
    generalize hM : max a.length b.length = M at *
    by_cases hlt : i < M
    · have hz : (i : Int) < M := by omega
      refine en_seq_reg rfl (by simp [und, List.replicate]; rfl) ?_
      refine en_seq_cond (t := true) (by simp [bV, hz, hlt]) (fun _ => ?_) (fun h => by simp at h)
      refine en_seq_skip ?_
      refine en_seq_block ?_
      refine en_seq_reg rfl (by simp; rfl) ?_
      by_cases hlp : i < pfx a b
      · obtain ⟨x, hx1, hx2⟩ := pfx_eq hlp
        have q1 : ¬ ((a.length : Int) ≤ i) := by omega
        have q2 : ¬ ((b.length : Int) ≤ i) := by omega
        have q3 : ¬ (a.length ≤ i) := by omega
        have q4 : ¬ (b.length ≤ i) := by omega
        refine en_seq_draw rfl (by simp [q1, q2, q3, q4, hx1, hx2]; exact ⟨rfl, rfl⟩) (by kernel_rfl) ?_
        refine en_cond (t := false) (by simp [bV]) (fun h => by simp at h) (fun _ => ?_)
        refine en_skip ?_
        simp only [outOf, thenQ, if_true]
        refine en_reg rfl (by simp; rfl) ?_
        simp only [outOf, thenQ, if_true]
        have hw : IntKind.i64.wrap ((i : Int) + 1) = i + 1 := wrap_i64 (by omega) (by omega)
        refine ⟨i + 1, by omega, ?_, by omega⟩
        simp [hw, und, List.replicate]
      · obtain rfl : i = pfx a b := by omega
        have hd : difF a b = pfx a b := by unfold difF; split <;> omega
        rw [hd]
        by_cases k1 : a.length ≤ pfx a b
        · have q1 : ((a.length : Int) ≤ pfx a b) := by omega
          refine en_seq_draw rfl (by simp [q1, k1]; exact ⟨rfl, rfl⟩) (by kernel_rfl) ?_
          refine en_cond (t := true) (by simp [bV]) (fun _ => ?_) (fun h => by simp at h)
          refine en_seq_reg rfl (by simp; rfl) ?_
          refine en_ret ?_
          simp
        · have q1 : ¬ ((a.length : Int) ≤ pfx a b) := by omega
          by_cases k2 : b.length ≤ pfx a b
          · have q2 : ((b.length : Int) ≤ pfx a b) := by omega
            refine en_seq_draw rfl (by simp [q1, k1, q2, k2]; exact ⟨rfl, rfl⟩) (by kernel_rfl) ?_
            refine en_cond (t := true) (by simp [bV]) (fun _ => ?_) (fun h => by simp at h)
            refine en_seq_reg rfl (by simp; rfl) ?_
            refine en_ret ?_
            simp
          · have q2 : ¬ ((b.length : Int) ≤ pfx a b) := by omega
            have ha : a[pfx a b]? = some (a[pfx a b]'(by omega)) := by simp
            have hb : b[pfx a b]? = some (b[pfx a b]'(by omega)) := by simp
            have hne := pfx_ne ha hb
            generalize a[pfx a b]'(by omega) = x at ha hne
            generalize b[pfx a b]'(by omega) = y at hb hne
            generalize pfx a b = i at *
            refine en_seq_draw rfl (by simp [q1, k1, q2, k2, ha, hb, hne]; exact ⟨rfl, rfl⟩) (by kernel_rfl) ?_
            refine en_cond (t := true) (by simp [bV]) (fun _ => ?_) (fun h => by simp at h)
            refine en_seq_reg rfl (by simp; rfl) ?_
            refine en_ret ?_
            simp
    · have hz : ¬ ((i : Int) < M) := by omega
      have hd : difF a b = -1 := by unfold difF; split <;> omega
      rw [hd]
      refine en_seq_reg rfl (by simp [und, List.replicate]; rfl) ?_
      refine en_seq_cond (t := false) (by simp [bV, hz, hlt]) (fun h => by simp at h) (fun _ => ?_)
      refine en_seq_exit ?_
      simp only [outOf, thenQ, if_true]
      refine en_seq_reg rfl (by simp; rfl) ?_
      refine en_ret ?_
      simp
  · omega
  · omega
  · simp [H36, und, List.replicate]
    split <;> omega
theorem w22 (a b : Hs) (na : a.length ≤ 1000000) (nb : b.length ≤ 1000000) : execFn tt T G kp22 false (max a.length b.length + 1) Tryd.f22 [.one (hxC a), .one (hxC b)] = some (iP (difF a b), []) := by
  refine fn_ends body22 ?_
  unfold c22
  rw [Tryd.ntmps22]
  have hp := pfx_le a b
  refine en_seq_reg rfl (by simp; rfl) ?_
  refine en_assoc ?_
  refine en_seq_reg rfl (by simp; rfl) ?_
  refine en_seq_block (en_loop (kq := ⟨[0, 1, 5], [], []⟩) rfl ?_)
  refine it_inv (fun i => H22 a b i) (fun i => i ≤ pfx a b) (fun i => max a.length b.length - i) ?_ _ 0 _ ?_ ?_ ?_
  · intro i hi
    unfold b22_1 H22
    refine en_assoc ?_
    by_cases hlp : i < pfx a b
    · obtain ⟨x, hx1, hx2⟩ := pfx_eq hlp
      have p1 : (i : Int) < a.length := by omega
      have p2 : i < a.length := by omega
      have q1 : ¬ ((a.length : Int) ≤ i) := by omega
      have q2 : ¬ ((b.length : Int) ≤ i) := by omega
      have q3 : ¬ (a.length ≤ i) := by omega
      have q4 : ¬ (b.length ≤ i) := by omega
      refine en_seq_reg rfl (by simp [und, List.replicate, p1, p2]; rfl) ?_
      refine en_seq_cond (t := true) (by simp [bV]) (fun _ => ?_) (fun h => by simp at h)
      refine en_seq_skip ?_
      refine en_seq_block ?_
      refine en_seq_draw rfl (by simp [q1, q2, q3, q4, hx1, hx2]; exact ⟨rfl, rfl⟩) (by kernel_rfl) ?_
      refine en_cond (t := false) (by simp [bV]) (fun h => by simp at h) (fun _ => ?_)
      refine en_skip ?_
      simp only [outOf, thenQ, if_true]
      refine en_reg rfl (by simp; rfl) ?_
      simp only [outOf, thenQ, if_true]
      have hw : IntKind.i64.wrap ((i : Int) + 1) = i + 1 := wrap_i64 (by omega) (by omega)
      refine ⟨i + 1, by omega, ?_, by omega⟩
      simp [hw, und, List.replicate]
    · obtain rfl : i = pfx a b := by omega
      by_cases k1 : a.length ≤ pfx a b
      · have q1 : ((a.length : Int) ≤ pfx a b) := by omega
        have p1 : ¬ ((pfx a b : Int) < a.length) := by omega
        have p2 : ¬ (pfx a b < a.length) := by omega
        by_cases k2 : b.length ≤ pfx a b
        · have p3 : ¬ ((pfx a b : Int) < b.length) := by omega
          have p4 : ¬ (pfx a b < b.length) := by omega
          have hd : difF a b = -1 := by unfold difF; split <;> omega
          rw [hd]
          refine en_seq_reg rfl (by simp [und, List.replicate, p1, p2]; rfl) ?_
          refine en_seq_cond (t := false) (by simp [bV, p3, p4]) (fun h => by simp at h) (fun _ => ?_)
          refine en_seq_exit ?_
          simp only [outOf, thenQ, if_true]
          refine en_seq_reg rfl (by simp; rfl) ?_
          refine en_ret ?_
          simp
        · have p3 : ((pfx a b : Int) < b.length) := by omega
          have p4 : (pfx a b < b.length) := by omega
          have hd : difF a b = pfx a b := by unfold difF; split <;> omega
          rw [hd]
          refine en_seq_reg rfl (by simp [und, List.replicate, p1, p2]; rfl) ?_
          refine en_seq_cond (t := true) (by simp [bV, p3, p4]) (fun _ => ?_) (fun h => by simp at h)
          refine en_seq_skip ?_
          refine en_seq_block ?_
          refine en_seq_draw rfl (by simp [q1, k1]; exact ⟨rfl, rfl⟩) (by kernel_rfl) ?_
          refine en_cond (t := true) (by simp [bV]) (fun _ => ?_) (fun h => by simp at h)
          refine en_seq_reg rfl (by simp; rfl) ?_
          refine en_ret ?_
          simp
      · have q1 : ¬ ((a.length : Int) ≤ pfx a b) := by omega
        have p1 : ((pfx a b : Int) < a.length) := by omega
        have p2 : (pfx a b < a.length) := by omega
        have hd : difF a b = pfx a b := by unfold difF; split <;> omega
        rw [hd]
        by_cases k2 : b.length ≤ pfx a b
        · have q2 : ((b.length : Int) ≤ pfx a b) := by omega
          refine en_seq_reg rfl (by simp [und, List.replicate, p1, p2]; rfl) ?_
          refine en_seq_cond (t := true) (by simp [bV]) (fun _ => ?_) (fun h => by simp at h)
          refine en_seq_skip ?_
          refine en_seq_block ?_
          refine en_seq_draw rfl (by simp [q1, k1, q2, k2]; exact ⟨rfl, rfl⟩) (by kernel_rfl) ?_
          refine en_cond (t := true) (by simp [bV]) (fun _ => ?_) (fun h => by simp at h)
          refine en_seq_reg rfl (by simp; rfl) ?_
          refine en_ret ?_
          simp
        · have q2 : ¬ ((b.length : Int) ≤ pfx a b) := by omega
          have ha : a[pfx a b]? = some (a[pfx a b]'(by omega)) := by simp
          have hb : b[pfx a b]? = some (b[pfx a b]'(by omega)) := by simp
          have hne := pfx_ne ha hb
          generalize a[pfx a b]'(by omega) = x at ha hne
          generalize b[pfx a b]'(by omega) = y at hb hne
          generalize pfx a b = i at *
          refine en_seq_reg rfl (by simp [und, List.replicate, p1, p2]; rfl) ?_
          refine en_seq_cond (t := true) (by simp [bV]) (fun _ => ?_) (fun h => by simp at h)
          refine en_seq_skip ?_
          refine en_seq_block ?_
          refine en_seq_draw rfl (by simp [q1, k1, q2, k2, ha, hb, hne]; exact ⟨rfl, rfl⟩) (by kernel_rfl) ?_
          refine en_cond (t := true) (by simp [bV]) (fun _ => ?_) (fun h => by simp at h)
          refine en_seq_reg rfl (by simp; rfl) ?_
          refine en_ret ?_
          simp
  · omega
  · omega
  · simp [H22, und, List.replicate]
end
end Go.Proofs.YtipochhfofhofaaDoor
