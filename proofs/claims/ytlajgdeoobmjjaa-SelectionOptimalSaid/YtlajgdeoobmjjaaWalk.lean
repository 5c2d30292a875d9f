import Derived.Test.YtlajgdeoobmjjaaFollow
namespace Go.Proofs.Ytlajgdeoobmjjaa
open Go.RowKit
set_option linter.unusedVariables false

def walkPos (L : Nat) (r : Option (List Int)) : Int := match r with | none => 0 | some l => (L : Int) - l.length
def walkErr (r : Option (List Int)) : Int := match r with | none => 321 | some _ => 0
def WalkPost (w : World) (L : Nat) (r : Option (List Int)) (e : Ending) (w' : World) : Prop := e = .returned (.tuple #[.int .i64 (walkPos L r), .int .i64 (walkErr r)]) ∧ w = w'

section
variable (A tA : Option Addr) (n c m tc : Nat) (zs T : List Int) (t best : Int) (w : World) (B : Nat)

set_option maxHeartbeats 1000000 in
theorem walk_end (k : Nat) (i : Int) (s : Int) (hk : m ≤ k) :
    Calls Try.prog 32 #[.slice A n c, .int .i64 t, .int .i64 best, .slice tA m tc, .int .i64 k, .int .i64 i, .int .i64 s] w (WalkPost w m none) := by
  go_enter Try.func32, Try.ntmps32
  go_wp2
  go_ret2
  exact ⟨rfl, rfl⟩

set_option maxHeartbeats 1000000 in
theorem walk_leave (k : Nat) (i : Nat) (s : Int) (hr : Rd w B A (I64 zs)) (hl : zs.length = n) (hc : n ≤ c) (hv : Vals zs) (hT : Rd w B tA (U8 T)) (hTl : T.length = m) (hm : m ≤ 16384) (hk : k < m) (hi : i ≤ n) (hs0 : 0 ≤ s) (hs1 : s ≤ 33600000000000000) (hx : T[k]? = some 2) :
    Calls Try.prog 32 #[.slice A n c, .int .i64 t, .int .i64 best, .slice tA m tc, .int .i64 k, .int .i64 i, .int .i64 s] w (WalkPost w m (leaveR (endsB zs t i s best) (T.drop (k + 1)))) := by
  have HE := Lib.hid (rends_any A n c zs t (i : Int) s best w B hr hl hc hv (by omega) (by omega) hs0 (by omega))
  rw [Int.toNat_natCast] at HE
  obtain ⟨ad, rfl, hadb, hcell⟩ := hT.at_ (k := k) (u := .int .u8 2) (by simp [hx])
  have HP := Lib.hid (show walkPos m (some (T.drop (k + 1))) = (k : Int) + 1 by simp [walkPos]; omega)
  clear hr hl hT hTl hx
  cases he : endsB zs t i s best with
  | true =>
    rw [he] at HE
    clear he
    go_enter Try.func32, Try.ntmps32
    go_wp2_with fail
    refine HE.out.mono ?_
    rintro e w1 ⟨rfl, rfl⟩
    go_wp2
    go_ret2
    refine ⟨?_, rfl⟩
    show _ = Ending.returned (.tuple #[.int .i64 (walkPos m (some (T.drop (k + 1)))), .int .i64 0])
    rw [HP.out]; rfl
  | false =>
    rw [he] at HE
    clear he
    go_enter Try.func32, Try.ntmps32
    go_wp2_with fail
    refine HE.out.mono ?_
    rintro e w1 ⟨rfl, rfl⟩
    go_wp2
    go_ret2
    exact ⟨rfl, rfl⟩

set_option maxHeartbeats 1000000 in
theorem walk_bad (k : Nat) (i : Nat) (s x : Int) (hT : Rd w B tA (U8 T)) (hTl : T.length = m) (hm : m ≤ 16384) (hk : k < m) (hx : T[k]? = some x) (hx2 : x ≠ 2) (hx1 : x ≠ 1 ∨ i = n) :
    Calls Try.prog 32 #[.slice A n c, .int .i64 t, .int .i64 best, .slice tA m tc, .int .i64 k, .int .i64 i, .int .i64 s] w (WalkPost w m none) := by
  obtain ⟨ad, rfl, hadb, hcell⟩ := hT.at_ (k := k) (u := .int .u8 x) (by simp [hx])
  have hd2 : (x == 2) = false := by simp [hx2]
  clear hT hTl hx hx2
  by_cases h1 : x = 1
  · have hin : i = n := by rcases hx1 with h | h; exact absurd h1 h; exact h
    subst hin
    have hd1 : (x != 1) = false := by simp [h1]
    clear hx1 h1
    go_enter Try.func32, Try.ntmps32
    go_wp2
    go_ret2
    exact ⟨rfl, rfl⟩
  · have hd1 : (x != 1) = true := by simp [bne_iff_ne, h1]
    clear hx1 h1
    go_enter Try.func32, Try.ntmps32
    go_wp2
    go_ret2
    exact ⟨rfl, rfl⟩

set_option maxHeartbeats 1000000 in
theorem walk_any (hr : Rd w B A (I64 zs)) (hl : zs.length = n) (hc : n ≤ c) (hv : Vals zs) (hT : Rd w B tA (U8 T)) (hTl : T.length = m) (hm : m ≤ 16384) :
    ∀ (rest : List Int) (i k : Nat) (s : Int), rest = zs.drop i → i ≤ n → k ≤ m → 0 ≤ s → s + rest.sum ≤ 33600000000000000 →
    Calls Try.prog 32 #[.slice A n c, .int .i64 t, .int .i64 best, .slice tA m tc, .int .i64 k, .int .i64 i, .int .i64 s] w (WalkPost w m (followV t best rest s (T.drop k))) := by
  intro rest
  induction rest with
  | nil =>
    intro i k s hrest hi hkm hs0 hs1
    have hin : i = n := by
      have h := congrArg List.length hrest
      simp at h
      omega
    by_cases hk : m ≤ k
    · rw [List.drop_of_length_le (by omega), followV_nil]
      exact walk_end A tA n c m tc t best w k i s hk
    · have hkl : k < T.length := by omega
      rw [List.drop_eq_getElem_cons hkl]
      have hx := List.getElem?_eq_getElem hkl
      generalize T[k] = x at *
      by_cases hx2 : x = 2
      · subst hx2
        rw [followV_leave, hrest]
        exact walk_leave A tA n c m tc zs T t best w B k i s hr hl hc hv hT hTl hm (by omega) hi hs0 (by simp at hs1; omega) hx
      · have hno : followV t best [] s (x :: T.drop (k + 1)) = none := by
          by_cases h1 : x = 1
          · subst h1; exact followV_end
          · exact followV_other hx2 h1
        rw [hno]
        exact walk_bad A tA n c m tc T t best w B k i s x hT hTl hm (by omega) hx hx2 (.inr hin)
  | cons z r ih =>
    intro i k s hrest hi hkm hs0 hs1
    have hrs : 0 ≤ (z :: r).sum := by
      rw [hrest]; exact sum_nonneg (fun x hx => hv.2 x (List.mem_of_mem_drop hx))
    by_cases hk : m ≤ k
    · rw [List.drop_of_length_le (by omega), followV_nil]
      exact walk_end A tA n c m tc t best w k i s hk
    · have hkl : k < T.length := by omega
      rw [List.drop_eq_getElem_cons hkl]
      have hx := List.getElem?_eq_getElem hkl
      generalize T[k] = x at *
      by_cases hx2 : x = 2
      · subst hx2
        rw [followV_leave, hrest]
        exact walk_leave A tA n c m tc zs T t best w B k i s hr hl hc hv hT hTl hm (by omega) hi hs0 (by omega) hx
      · by_cases hx1 : x = 1
        · subst hx1
          have hn16 : n ≤ 16 := by rw [← hl]; exact hv.1
          rw [followV_take]
          show Calls _ _ _ _ (WalkPost w m (nextR (followV t best r (s + z) (T.drop (k + 1))) (followV t best r s)))
          have IH := Lib.hid ih; clear ih
          have HRE := Lib.hid (drop_cons hrest); clear hrest
          have hin : i < n := by have := HRE.out.2.2; omega
          have hz : Good z := hv.2 z (List.mem_of_getElem? HRE.out.1)
          have hrs' : 0 ≤ r.sum := sum_nonneg (fun x hx => hv.2 x (List.mem_of_mem_drop (by rw [← HRE.out.2.1]; exact hx)))
          simp only [List.sum_cons] at hs1 hrs
          unfold Good at hz
          obtain ⟨ad, hA, hadb, hcell⟩ := hT.at_ (k := k) (u := .int .u8 1) (by simp [hx])
          obtain ⟨bd, hA2, hbdb, hcellz⟩ := hr.at_ (k := i) (u := .int .i64 z) (by simp [HRE.out.1])
          have HLEN := Lib.hid (fun l => followV_len t best r (s + z) (T.drop (k + 1)) l)
          have HTL := Lib.hid hTl
          subst hA hA2
          clear hr hl hc hv hT hTl hx hx2
          go_enter Try.func32, Try.ntmps32
          go_wp2_with fail
          rw [show ((i : Int) + 1) = ((i + 1 : Nat) : Int) from rfl, show ((k : Int) + 1) = ((k + 1 : Nat) : Int) from rfl]
          refine (IH.out (i + 1) (k + 1) (s + z) HRE.out.2.1 (by omega) (by omega) (by omega) (by omega)).mono ?_
          rintro e w1 ⟨rfl, rfl⟩
          rcases hf : followV t best r (s + z) (T.drop (k + 1)) with _ | tr2
          · have HN := Lib.hid (show nextR (followV t best r (s + z) (T.drop (k + 1))) (followV t best r s) = none by rw [hf]; rfl)
            clear hf
            simp only [walkPos, walkErr]
            go_wp2
            go_ret2
            rw [HN.out]
            exact ⟨rfl, rfl⟩
          · have HN := Lib.hid (show nextR (followV t best r (s + z) (T.drop (k + 1))) (followV t best r s) = followV t best r s tr2 by rw [hf]; rfl)
            obtain ⟨k2, hk0, hk2, rfl⟩ := HLEN.out tr2 hf
            rw [List.drop_drop] at HN
            have hkk : k + 1 + k2 ≤ m := by rw [List.length_drop, HTL.out] at hk2; omega
            have hpos : (m : Int) - ((T.drop (k + 1)).drop k2).length = ((k + 1 + k2 : Nat) : Int) := by rw [List.length_drop, List.length_drop, HTL.out]; omega
            simp only [walkPos, walkErr]
            rw [hpos]
            clear hf hpos hk2
            generalize k + 1 + k2 = k3 at *
            go_wp2_with fail
            rw [show ((i : Int) + 1) = ((i + 1 : Nat) : Int) from rfl]
            refine (IH.out (i + 1) k3 s HRE.out.2.1 (by omega) (by omega) (by omega) (by omega)).mono ?_
            rintro e w1 ⟨rfl, rfl⟩
            go_wp2
            go_ret2
            rw [HN.out]
            exact ⟨rfl, rfl⟩
        · rw [followV_other hx2 hx1]
          exact walk_bad A tA n c m tc T t best w B k i s x hT hTl hm (by omega) hx hx2 (.inl hx1)
end
end Go.Proofs.Ytlajgdeoobmjjaa
