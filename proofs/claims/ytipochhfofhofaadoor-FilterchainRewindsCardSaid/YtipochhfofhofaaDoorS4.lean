import Derived.Test.YtipochhfofhofaaDoorS3
namespace Go.Proofs.YtipochhfofhofaaDoor
open Go.RowKit
open Go.Av
set_option maxRecDepth 100000
set_option linter.unusedSimpArgs false
set_option linter.unusedVariables false
noncomputable def G65 := lift (fun b : Arr 64 => [.agg (arC .u8 b)]) fun b => some (.agg (arC .u32 (sched b)), [])
theorem G65_eq (b : Arr 64) : G65 [.agg (arC .u8 b)] = some (.agg (arC .u32 (sched b)), []) := lift_eq (enc := fun b : Arr 64 => [.agg (arC .u8 b)]) (fun a b h => by simp at h; exact arC_inj h) b
variable {G : Glob}
theorem v65 : Impl Tryd.prog G 65 G65 := impl_of (T := Av.tab [(66, G66)]) mixed htt (Av.tab_ok ⟨v66, trivial⟩) Tryd.func65 body65 (by kernel_rfl) fun ps r ho hF => by
  obtain ⟨x, rfl, h⟩ := lift_inv hF
  injection h with h
  subst h
  exact ⟨_, _, _, w65 x rfl⟩
theorem v67 : Impl Tryd.prog G 67 G65 := impl_of (T := Av.tab [(69, G66)]) mixed htt (Av.tab_ok ⟨v69, trivial⟩) Tryd.func67 body67 (by kernel_rfl) fun ps r ho hF => by
  obtain ⟨x, rfl, h⟩ := lift_inv hF
  injection h with h
  subst h
  exact ⟨_, _, _, w67 x rfl⟩
/-- the constants of the rounds -/
def kL : List Int := [0x428a2f98, 0x71374491, 0xb5c0fbcf, 0xe9b5dba5, 0x3956c25b, 0x59f111f1, 0x923f82a4, 0xab1c5ed5,
  0xd807aa98, 0x12835b01, 0x243185be, 0x550c7dc3, 0x72be5d74, 0x80deb1fe, 0x9bdc06a7, 0xc19bf174,
  0xe49b69c1, 0xefbe4786, 0x0fc19dc6, 0x240ca1cc, 0x2de92c6f, 0x4a7484aa, 0x5cb0a9dc, 0x76f988da,
  0x983e5152, 0xa831c66d, 0xb00327c8, 0xbf597fc7, 0xc6e00bf3, 0xd5a79147, 0x06ca6351, 0x14292967,
  0x27b70a85, 0x2e1b2138, 0x4d2c6dfc, 0x53380d13, 0x650a7354, 0x766a0abb, 0x81c2c92e, 0x92722c85,
  0xa2bfe8a1, 0xa81a664b, 0xc24b8b70, 0xc76c51a3, 0xd192e819, 0xd6990624, 0xf40e3585, 0x106aa070,
  0x19a4c116, 0x1e376c08, 0x2748774c, 0x34b0bcb5, 0x391c0cb3, 0x4ed8aa4a, 0x5b9cca4f, 0x682e6ff3,
  0x748f82ee, 0x78a5636f, 0x84c87814, 0x8cc70208, 0x90befffa, 0xa4506ceb, 0xbef9a3f7, 0xc67178f2]
def kA : Arr 64 := ⟨kL, rfl⟩
def iniA : Arr 8 := ⟨[0x6a09e667, 0xbb67ae85, 0x3c6ef372, 0xa54ff53a, 0x510e527f, 0x9b05688c, 0x1f83d9ab, 0x5be0cd19], rfl⟩
structure St where
  a : Int
  b : Int
  c : Int
  d : Int
  e : Int
  f : Int
  g : Int
  h : Int
abbrev ad (x y : Int) : Int := IntKind.u32.wrap (x + y)
def t1 (s : St) (k w : Int) : Int := ad (ad (ad (ad s.h (bits .xor .u32 (bits .xor .u32 (rr s.e 6) (rr s.e 11)) (rr s.e 25))) (bits .xor .u32 (bits .and .u32 s.e s.f) (bits .and .u32 (bits .xor .u32 4294967295 s.e) s.g))) k) w
def t2 (s : St) : Int := ad (bits .xor .u32 (bits .xor .u32 (rr s.a 2) (rr s.a 13)) (rr s.a 22)) (bits .xor .u32 (bits .xor .u32 (bits .and .u32 s.a s.b) (bits .and .u32 s.a s.c)) (bits .and .u32 s.b s.c))
def rnd (s : St) (k w : Int) : St := ⟨ad (t1 s k w) (t2 s), s.a, s.b, s.c, ad s.d (t1 s k w), s.e, s.f, s.g⟩
def rnds (w : Arr 64) (s : St) : Nat → St
  | 0 => s
  | i + 1 => rnd (rnds w s i) (kA.at i) (w.at i)
def st0 (x : Arr 8) : St := ⟨x.at 0, x.at 1, x.at 2, x.at 3, x.at 4, x.at 5, x.at 6, x.at 7⟩
def fin (x : Arr 8) (s : St) : Arr 8 := ⟨[ad (x.at 0) s.a, ad (x.at 1) s.b, ad (x.at 2) s.c, ad (x.at 3) s.d, ad (x.at 4) s.e, ad (x.at 5) s.f, ad (x.at 6) s.g, ad (x.at 7) s.h], rfl⟩
def comp (x : Arr 8) (b : Arr 64) : Arr 8 := fin x (rnds (sched b) (st0 x) 64)
def H60 (x : Arr 8) (w : Arr 64) (s : St) (i : Nat) : ASt := ⟨und 2 ++ ([.ptr 2 0 0 0 8] ++ (und 1 ++ ([.ptr 4 0 0 0 8, .ptr 5 0 0 0 64, uP s.a, uP s.b, uP s.c, uP s.d, uP s.e, uP s.f, uP s.g, uP s.h] ++ (und 21 ++ ([iP i] ++ (und 95)))))), [(2, bx 8 (arC .u32 x)), (4, bx 8 (arC .u32 (zA 8))), (5, bx 64 (arC .u32 w))]⟩
def kp60 : Keep := fun _ => ⟨[2, 4, 5, 6, 7, 8, 9, 10, 11, 12, 13, 35], [2, 4, 5], []⟩
section
variable {T : Tab}
set_option maxHeartbeats 4000000 in
theorem w60 (x : Arr 8) (b : Arr 64) (hG : G 1 = some (arC .u32 kA)) (h65 : T 65 = some G65) (h66 : T 66 = some G66) : execFn tt T G kp60 false 65 Tryd.f60 [.agg (arC .u32 x), .agg (arC .u8 b)] = some (.agg (arC .u32 (comp x b)), []) := by
  refine fn_ends body60 ?_
  unfold c60
  rw [Tryd.ntmps60]
  have e65 := G65_eq b
  refine en_seq_reg rfl (by simp; rfl) ?_
  refine en_seq_reg rfl (by simp [h65, e65]; rfl) ?_
  refine en_seq_draw rfl (by simp; exact ⟨rfl, rfl⟩) (by kernel_rfl) ?_
  refine en_seq_draw rfl (by simp; exact ⟨rfl, rfl⟩) (by kernel_rfl) ?_
  refine en_assoc ?_
  refine en_seq_reg rfl (by simp; rfl) ?_
  refine en_seq_block (en_loop (kq := ⟨[2, 4, 5, 6, 7, 8, 9, 10, 11, 12, 13, 35], [2, 4, 5], []⟩) rfl ?_)
  refine it_inv (fun i => H60 x (sched b) (rnds (sched b) (st0 x) i) i) (fun i => i ≤ 64) (fun i => 64 - i) ?_ _ 0 _ ?_ ?_ ?_
  · intro i hi
    unfold b60_1 H60
    generalize hs : rnds (sched b) (st0 x) i = s
    by_cases hlt : i < 64
    · have hz : (i : Int) < 64 := by omega
      refine en_seq_reg rfl (by simp [und, List.replicate]; rfl) ?_
      refine en_seq_cond (t := true) (by simp [bV, hz]) (fun _ => ?_) (fun h => by simp at h)
      refine en_seq_skip ?_
      refine en_seq_block ?_
      refine en_seq_reg rfl (by simp; rfl) ?_
      refine en_seq_draw rfl (by simp [hlt, h66, G66, hG, IntKind.signed, IntKind.max, IntKind.bits]; exact ⟨rfl, rfl⟩) (by kernel_rfl) ?_
      refine en_seq_reg rfl (by simp [h66, G66]; rfl) ?_
      refine en_reg rfl (by simp; rfl) ?_
      simp only [outOf, thenQ, if_true]
      refine en_reg rfl (by simp; rfl) ?_
      simp only [outOf, thenQ, if_true]
      have hw : IntKind.i64.wrap ((i : Int) + 1) = i + 1 := wrap_i64 (by omega) (by omega)
      refine ⟨i + 1, by omega, ?_, by omega⟩
      simp [hw, und, List.replicate, rnds, rnd, t1, t2, hs, ad]
    · have hz : ¬ (i : Int) < 64 := by omega
      obtain rfl : i = 64 := by omega
      refine en_seq_reg rfl (by simp [und, List.replicate]; rfl) ?_
      refine en_seq_cond (t := false) (by simp [bV, hz]) (fun h => by simp at h) (fun _ => ?_)
      refine en_seq_exit ?_
      simp only [outOf, thenQ, if_true]
      refine en_seq_reg rfl (by simp [arC_put]; rfl) ?_
      refine en_ret ?_
      have hf : comp x b = (((((((((zA 8).put 0 (ad (x.at 0) s.a)).put 1 (ad (x.at 1) s.b)).put 2 (ad (x.at 2) s.c)).put 3 (ad (x.at 3) s.d)).put 4 (ad (x.at 4) s.e)).put 5 (ad (x.at 5) s.f)).put 6 (ad (x.at 6) s.g)).put 7 (ad (x.at 7) s.h)) := by
        unfold comp
        rw [hs]
        rfl
      rw [hf]
      simp [ad]
  · omega
  · omega
  · simp [H60, und, List.replicate, rnds, st0]
end
end Go.Proofs.YtipochhfofhofaaDoor
