import Derived.Test.YtlajgdeoobmjjaaRLargest
import Derived.Test.YtlajgdeoobmjjaaSane
namespace Go.Proofs.Ytlajgdeoobmjjaa
open Go.RowKit
set_option linter.unusedVariables false

set_option maxHeartbeats 2000000 in
theorem rlargest_any (A : Option Addr) (n c : Nat) (zs : List Int) (t : Int) (w : World) (hr : Rd w w.heap.size A (I64 zs)) (hl : zs.length = n) (hm : n ≤ maxLen) :
    Calls Try.prog 18 #[.slice A n c, .int .i64 t] w (LargPost w (rlargV zs t)) := by
  by_cases hchk : checkV zs t = 0
  · by_cases hfund : zs.sum < t
    · have HE := Lib.hid (show rlargV zs t = ⟨[], 0, 320⟩ by simp [rlargV, hchk, hfund])
      obtain ⟨hv, ht⟩ := (checkV_ok zs t).1 hchk
      have HCH := Lib.hid (proper_any A n c zs t _ w.heap.size (hr.alloc (Nat.le_refl _) (.cells #[.slice none 0 0, .int .i64 0] 29)) hl hm)
      rw [hchk] at HCH
      have HT := Lib.hid (sum_any A n c zs _ w.heap.size (hr.alloc (Nat.le_refl _) (.cells #[.slice none 0 0, .int .i64 0] 29)) hl hv)
      clear hchk hr hl hv ht
      go_enter Try.func18, Try.ntmps18
      go_wp2_with fail
      refine HCH.out.mono ?_
      rintro e w1 ⟨rfl, rfl⟩
      go_wp2_with fail
      refine HT.out.mono ?_
      rintro e w1 ⟨rfl, rfl⟩
      go_wp2
      rw [HE.out]
      refine bodyPost_ret (v := .tuple #[.agg #[.slice none 0 0, .int .i64 0], .int .i64 320]) (by simp [results, Try.results18, go_sem]) rfl ?_
      exact ⟨_, rfl, World.ownsRow_nil _ _ _ _, (Below.refl _ _).alloc (Nat.le_refl _) _⟩
    · rw [show rlargV zs t = rlargOk zs t by simp [rlargV, hchk, hfund]]
      exact rlargest_loop A n c zs t w hr hl hm hchk hfund
  · have HE := Lib.hid (show rlargV zs t = ⟨[], 0, checkV zs t⟩ by simp [rlargV, hchk])
    have HCH := Lib.hid (proper_any A n c zs t _ w.heap.size (hr.alloc (Nat.le_refl _) (.cells #[.slice none 0 0, .int .i64 0] 29)) hl hm)
    generalize checkV zs t = x at *
    have hd : (x != 0) = true := by simp [bne_iff_ne, hchk]
    clear hchk hr hl
    go_enter Try.func18, Try.ntmps18
    go_wp2_with fail
    refine HCH.out.mono ?_
    rintro e w1 ⟨rfl, rfl⟩
    go_wp2
    rw [HE.out]
    refine bodyPost_ret (v := .tuple #[.agg #[.slice none 0 0, .int .i64 0], .int .i64 x]) (by simp [results, Try.results18, go_sem]) rfl ?_
    exact ⟨_, rfl, World.ownsRow_nil _ _ _ _, (Below.refl _ _).alloc (Nat.le_refl _) _⟩

theorem greed_st (zs : List Int) (t : Int) (hf : ¬ zs.sum < t) : ∀ (f : Nat) (pl : List Int) (s : Int), GSt zs t pl s → GSt zs t (greedV zs t f (pl, s)).1 (greedV zs t f (pl, s)).2 := by
  intro f
  induction f with
  | zero => intro pl s h; exact h
  | succ f ih =>
    intro pl s h
    rw [greedV]
    split
    · rename_i hs
      exact ih _ _ (gst_step h (by simp only at hs; omega))
    · exact h

theorem sort_taken {zs : List Int} {t : Int} {pl : List Int} {s : Int} (h : GSt zs t pl s) : sortI pl = takenL pl zs.length := by
  have hp : (sortI pl).Perm pl := List.mergeSort_perm _ _
  have hnd : (takenL pl zs.length).Nodup := by
    unfold takenL
    rw [List.Nodup, List.pairwise_map]
    refine List.Pairwise.imp ?_ (List.Pairwise.filter _ (List.nodup_range (n := zs.length)))
    intro a b hab
    omega
  have hp2 : (takenL pl zs.length).Perm pl := by
    rw [List.perm_ext_iff_of_nodup hnd h.nd]
    intro a
    unfold takenL
    simp only [List.mem_map, List.mem_filter, List.mem_range]
    constructor
    · rintro ⟨j, ⟨_, h1⟩, rfl⟩
      simpa using h1
    · intro ha
      have hr := h.rng a ha
      exact ⟨a.toNat, ⟨by omega, by rw [Int.toNat_of_nonneg hr.1]; simpa using ha⟩, Int.toNat_of_nonneg hr.1⟩
  refine List.Perm.eq_of_pairwise (le := fun a b => a ≤ b) (fun a b _ _ h1 h2 => by omega) ?_ ?_ (hp.trans hp2.symm)
  · have := List.pairwise_mergeSort (le := fun (x y : Int) => decide (x ≤ y)) (by simp; omega) (by simp; omega) pl
    simpa [sortI] using this
  · unfold takenL
    rw [List.pairwise_map]
    refine List.Pairwise.imp ?_ (List.Pairwise.filter _ (List.pairwise_lt_range (n := zs.length)))
    intro a b hab
    omega

theorem larg_eq (zs : List Int) (t : Int) : largV zs t = rlargV zs t := by
  unfold largV rlargV
  by_cases hc : checkV zs t = 0
  · by_cases hf : zs.sum < t
    · simp [hc, hf]
    · simp only [hc, hf]
      have := greed_st zs t hf zs.length [] 0 (gst_init zs t)
      simp only [largOk, rlargOk, sort_taken this]
  · simp [hc]
theorem larg_len (zs : List Int) (t : Int) : (largV zs t).places.length ≤ 16 := by
  rw [larg_eq]
  unfold rlargV
  by_cases hc : checkV zs t = 0
  · obtain ⟨hv, _⟩ := (checkV_ok zs t).1 hc
    by_cases hf : zs.sum < t
    · simp [hc, hf]
    · simp only [hc, hf]
      have := takenL_len (greedV zs t zs.length ([], 0)).1 zs.length
      have := hv.1
      simp [rlargOk]; omega
  · simp [hc]
end Go.Proofs.Ytlajgdeoobmjjaa
