import Derived.Test.YtmjbklblgpnagaaLcG3
section
/- What is written comes back, and what is read is written again in the same way. -/
namespace Go.Lc
open Go.RowKit
open Go.Av
set_option linter.unusedVariables false
set_option linter.unusedSimpArgs false
set_option maxRecDepth 100000

/-! numbers -/
theorem numS_of (d : List Int) (a p : Nat) (v : Nat) : ∀ j, j ≤ p → (∀ i, i < j → bt d (a + i) = decide (((v : Int) / 2 ^ (p - 1 - i)) % 2 = 1)) → numS d a j = ((v / 2 ^ (p - j) % 2 ^ j : Nat) : Int)
 | 0, _, _ => by simp [numS, Nat.mod_one]
 | j + 1, hj, h => by
  have ih := numS_of d a p v j (by omega) (fun i hi => h i (by omega))
  have hb := h j (by omega)
  have e : p - j = (p - (j + 1)) + 1 := by omega
  have e2 : p - 1 - j = p - (j + 1) := by omega
  rw [e2] at hb
  generalize hk : p - (j + 1) = k at *
  rw [numS, ih, hb, e, Nat.pow_succ 2 k, ← Nat.div_div_eq_div_mul]
  have hc : ((v : Int) / 2 ^ k) = ((v / 2 ^ k : Nat) : Int) := by
   rw [Int.natCast_ediv]
   simp
  rw [hc]
  generalize v / 2 ^ k = u
  have hm := Nat.mod_mul (x := u) (a := 2) (b := 2 ^ j)
  rw [Nat.pow_succ, Nat.mul_comm (2 ^ j) 2, hm]
  have hu2 : u % 2 = 0 ∨ u % 2 = 1 := by omega
  rcases hu2 with h0 | h1
  ·rw [if_neg (by simp; omega), h0]
   omega
  ·rw [if_pos (by simp; omega), h1]
   omega
theorem or_sum {q p : Nat} {low : Nat} (hl : low < 2 ^ p) (hs : q * 2 ^ p + low ≤ 18446744073709551615) : bits .or .u64 (IntKind.u64.wrap ((q : Int) * 2 ^ p)) (low : Int) = ((q * 2 ^ p + low : Nat) : Int) := by
 have e0 : (q : Int) * 2 ^ p = ((q * 2 ^ p : Nat) : Int) := by simp
 rw [e0, wu_nat (by omega)]
 show IntKind.u64.wrap ((BitVec.ofInt 64 ((q * 2 ^ p : Nat) : Int) ||| BitVec.ofInt 64 (low : Int)).toNat : Int) = _
 rw [BitVec.toNat_or]
 have e1 : (BitVec.ofInt 64 ((q * 2 ^ p : Nat) : Int)).toNat = q * 2 ^ p := by
  simp only [BitVec.toNat_ofInt]
  omega
 have e2 : (BitVec.ofInt 64 (low : Int)).toNat = low := by
  simp only [BitVec.toNat_ofInt]
  omega
 have e3 := Nat.two_pow_add_eq_or_of_lt hl q
 rw [e1, e2, Nat.mul_comm q, ← e3, wu_nat (by rw [Nat.mul_comm]; exact hs)]

/-! reading what was written -/
theorem get_rice {v : Int} {p : Nat} {d : List Int} {a : Nat} (hb : ∀ i (h : i < (rice v p).length), bt d (a + i) = (rice v p)[i]) :
  (∀ i, i < (v / 2 ^ p).toNat → bt d (a + i) = true) ∧ bt d (a + (v / 2 ^ p).toNat) = false ∧ ∀ i, i < p → bt d (a + (v / 2 ^ p).toNat + 1 + i) = decide ((v / 2 ^ (p - 1 - i)) % 2 = 1) := by
 have hl := rice_length v p
 refine ⟨fun i hi => ?_, ?_, fun i hi => ?_⟩
 ·rw [hb i (by omega)]
  simp only [rice]
  rw [List.getElem_append_left (by simpa using hi)]
  simp
 ·rw [hb _ (by omega)]
  simp only [rice]
  rw [List.getElem_append_right (by simp)]
  simp
 ·have := hb ((v / 2 ^ p).toNat + 1 + i) (by omega)
  rw [show a + (v / 2 ^ p).toNat + 1 + i = a + ((v / 2 ^ p).toNat + 1 + i) by omega, this]
  simp only [rice]
  rw [List.getElem_append_right (by simp; omega)]
  simp only [List.length_replicate, show (v / 2 ^ p).toNat + 1 + i - (v / 2 ^ p).toNat = i + 1 by omega, List.getElem_cons_succ, lowb, List.getElem_map, List.getElem_range]
theorem RRS_rice {d : List Int} {n a p : Nat} {v : Nat} (hb : ∀ i (h : i < (rice (v : Int) p).length), bt d (a + i) = (rice (v : Int) p)[i]) (hn : a + (rice (v : Int) p).length ≤ n) (hq : ((v : Int) / 2 ^ p) ≤ 65536) (hv : v ≤ 18446744073709551615) : RRS d n a p = ((v : Int), a + (rice (v : Int) p).length, 0) := by
 obtain ⟨h1, h2, h3⟩ := get_rice hb
 have hl := rice_length (v : Int) p
 have hqi : ((v : Int) / 2 ^ p) = ((v / 2 ^ p : Nat) : Int) := by rw [Int.natCast_ediv]; simp
 have hqe : ((v : Int) / 2 ^ p).toNat = v / 2 ^ p := by rw [hqi, Int.toNat_natCast]
 rw [hqe] at h1 h2 h3 hl
 rw [hqi] at hq
 have hq6 : v / 2 ^ p ≤ 65536 := Int.ofNat_le.1 hq
 clear hqi hq
 have ho : ones d (n - a) a = v / 2 ^ p := by
  rw [ones_spec d (v / 2 ^ p) (n - a) a (by omega) h1]
  have : ones d (n - a - v / 2 ^ p) (a + v / 2 ^ p) = 0 := by
   obtain ⟨f, hf⟩ : ∃ f, n - a - v / 2 ^ p = f + 1 := ⟨n - a - v / 2 ^ p - 1, by omega⟩
   rw [hf, ones, if_neg (by rw [h2]; simp)]
  omega
 have hnum := numS_of d (a + v / 2 ^ p + 1) p v p (Nat.le_refl _) h3
 rw [Nat.sub_self, Nat.pow_zero, Nat.div_one] at hnum
 unfold RRS
 rw [ho, if_neg (by omega), if_neg (by omega), hnum, or_sum (Nat.mod_lt _ (Nat.pow_pos (by omega))) (by have := Nat.div_add_mod v (2 ^ p); rw [Nat.mul_comm]; omega)]
 have := Nat.div_add_mod v (2 ^ p)
 rw [Nat.mul_comm] at this
 rw [this, hl]
 simp only [Nat.add_assoc]
theorem dec_enc (d : List Int) (n p : Nat) : ∀ (l : List Int) (a : Nat) (s : Int) (out : List Int) (B : List Bool), U64 l → chain s l → 0 ≤ s → encS p a s l = some B → (∀ i (h : i < B.length), bt d (a + i) = B[i]) → a + B.length ≤ n → ∃ s', decS d n p l.length a s out = decS d n p 0 (a + B.length) s' (out ++ l)
 | [], a, s, out, B, hu, hc, hs, he, hb, hn => by
  simp only [encS, Option.some.injEq] at he
  subst he
  exact ⟨s, by simp⟩
 | v :: l, a, s, out, B, hu, hc, hs, he, hb, hn => by
  obtain ⟨hsv, hc⟩ := hc
  have hvu := hu v (by simp)
  rw [encS] at he
  split at he
  ·cases he
  ·rename_i hlim
   obtain ⟨B2, hB2, rfl⟩ := Option.map_eq_some_iff.1 he
   obtain ⟨w, hw⟩ : ∃ w : Nat, v - s = (w : Int) := ⟨(v - s).toNat, by omega⟩
   have hl := rice_length (v - s) p
   rw [List.length_append] at hn
   have hR : RRS d n a p = (v - s, a + (rice (v - s) p).length, 0) := by
    rw [hw] at hlim hb hn ⊢
    exact RRS_rice (fun i h => by rw [hb i (by rw [List.length_append]; omega), List.getElem_append_left h]) (by omega) (by omega) (by omega)
   have hsum : IntKind.u64.wrap (s + (v - s)) = v := by rw [wu _ (by omega)]; omega
   have ih := dec_enc d n p l (a + (rice (v - s) p).length) v (out ++ [v]) B2 (fun x hx => hu x (by simp [hx])) hc (by omega) (by rw [hl, show a + (((v - s) / 2 ^ p).toNat + 1 + p) = a + ((v - s) / 2 ^ p).toNat + 1 + p by omega]; exact hB2) (fun i h => by
    have := hb ((rice (v - s) p).length + i) (by rw [List.length_append]; omega)
    rw [show a + (rice (v - s) p).length + i = a + ((rice (v - s) p).length + i) by omega, this, List.getElem_append_right (by omega)]
    simp) (by omega)
   obtain ⟨s', ih⟩ := ih
   refine ⟨s', ?_⟩
   have e1 : decS d n p (v :: l).length a s out = decS d n p l.length (a + (rice (v - s) p).length) v (out ++ [v]) := by
    rw [List.length_cons, decS, hR]
    simp only [hsum]
    rw [if_pos trivial, if_neg (by omega)]
   rw [e1, ih, List.length_append, Nat.add_assoc, List.append_assoc]
   rfl
theorem numS_zero (d : List Int) (a : Nat) : ∀ p, (∀ i, i < p → bt d (a + i) = false) → numS d a p = 0
 | 0, _ => rfl
 | p + 1, h => by
  rw [numS, numS_zero d a p (fun i hi => h i (by omega)), h p (by omega)]
  simp
theorem back_enc {l : List Int} {p : Nat} {B : List Bool} {y : List Int × Int} (hl : l.length ≤ 4096) (hp : p ≤ 32) (hu : U64 l) (ha : Asc l) (he : encS p 0 0 l = some B) (hB : B.length ≤ 1600000) (hw : Wr [] 0 B y) : DR ((l.length : Int), y.1) (p : Int) = (l, 0) := by
 obtain ⟨h1, h2, h3⟩ := hw
 rw [Nat.zero_add] at h2 h3
 have hlen := h2.len
 have hbl : bl y.1 B.length = B := h3
 have hb : ∀ i (h : i < B.length), bt y.1 (0 + i) = B[i] := by
  intro i h
  have := congrArg (fun l => l[i]?) hbl
  simp [bl, h] at this
  rw [Nat.zero_add]
  exact this
 obtain ⟨s', hd⟩ := dec_enc y.1 (8 * y.1.length) p l 0 0 [] B hu (asc_chain l 0 (fun h => (hu _ (List.getElem_mem h)).1) ha) (by omega) he hb (by omega)
 rw [DR]
 simp only
 rw [if_neg (by omega), if_neg (by omega), show ((p : Int)).toNat = p by omega, show ((l.length : Int)).toNat = l.length by omega, hd, decS, if_neg (by omega), if_pos (numS_zero _ _ _ fun i hi => h2.rest _ (by omega))]
 simp

/-! writing what was read -/
end Go.Lc
end
section
/- Laws 19: Back, Members, Any. -/
namespace Go.Lc
open Go.RowKit
open Go.Av
set_option linter.unusedVariables false
set_option linter.unusedSimpArgs false
set_option maxRecDepth 100000

theorem encS_len (p : Nat) : ∀ (l : List Int) (n : Nat) (s : Int) (B : List Bool), n ≤ 1600000 → encS p n s l = some B → n + B.length ≤ 1600000
 | [], n, s, B, hn, h => by
  simp only [encS, Option.some.injEq] at h
  subst h
  simpa using hn
 | v :: l, n, s, B, hn, h => by
  rw [encS] at h
  split at h
  ·cases h
  ·rename_i hl
   obtain ⟨B2, h2, rfl⟩ := Option.map_eq_some_iff.1 h
   have := encS_len p l _ v B2 (by omega) h2
   rw [List.length_append, rice_length]
   omega
/-! Back -/
/-! Members and Any -/
theorem built {k : Arr 2} {o : List (List Int)} {p m : Int} {r : Tapi_Filter × Int} (ho : o.length ≤ 4096) (hp : 0 ≤ p ∧ p ≤ 32) (hm : 1 ≤ m ∧ m ≤ 1099511627776) (h : BR k o p m r) : r = ((0, []), 4) ∨ (r.2 = 0 ∧ Byt r.1.2 ∧ r.1.1 = ((dfs [] o).length : Int) ∧ DR r.1 p = (srt ((dfs [] o).map (valI k r.1.1 m)), 0)) := by
 have hby := BR_byt h
 have hdl := dfs_len o []
 simp only [List.length_nil, Nat.zero_add] at hdl
 rcases h with ⟨a1, _⟩ | ⟨_, a2, _⟩ | ⟨_, _, h⟩
 ·omega
 ·omega
 ·rcases h with ⟨a1, _⟩ | ⟨_, a2, _⟩ | ⟨_, _, _, a4, _⟩ | ⟨h1, _, _, h4, h5⟩
  ·rw [srt_length] at a1; simp at a1; omega
  ·omega
  ·exact absurd (srt_asc _) a4
  ·cases hB : encS p.toNat 0 0 (srt ((dfs [] o).map (valI k ((dfs [] o).length : Int) m))) with
   | none => rw [hB] at h5; exact .inl h5
   | some B =>
    rw [hB] at h5
    obtain ⟨y, rfl, hw⟩ := h5
    have hl : (srt ((dfs [] o).map (valI k ((dfs [] o).length : Int) m))).length = (dfs [] o).length := by rw [srt_length]; simp
    obtain ⟨q, rfl⟩ : ∃ q : Nat, p = (q : Int) := ⟨p.toNat, by omega⟩
    rw [show ((q : Int)).toNat = q by omega] at hB
    have := back_enc h1 (by omega) (srt_u64 (val_u64 _ _ _ _)) h4 hB (by have := encS_len q _ 0 0 B (by omega) hB; omega) hw
    refine .inr ⟨rfl, hby, ?_, ?_⟩
    ·simp only [hl]
    ·simp only
     rw [this, hl]
theorem MR_any {k : Arr 2} {f : Tapi_Filter} {l : List (List Int)} {p m : Int} {L : List Int} (hl : l.length ≤ 4096) (hf : 0 ≤ f.1 ∧ f.1 ≤ 4096) (hm : 1 ≤ m ∧ m ≤ 1099511627776) (hd : DR f p = (L, 0)) : MR k f l p m = (l.any fun x => decide (valI k f.1 m x ∈ L), 0) := by
 have hv : VR k l f.1 m = (adjF [] (srt (l.map (valI k f.1 m))), 0) := by
  unfold VR
  rw [if_neg (by omega), if_neg (by omega)]
 unfold MR
 rw [hd, hv]
 simp only [if_true]
 congr 1
 rw [Bool.eq_iff_iff]
 simp only [anyIn, List.any_eq_true, decide_eq_true_eq, adjF_mem, List.not_mem_nil, false_or]
 constructor
 ·rintro ⟨v, hv, hL⟩
  obtain ⟨x, hx, rfl⟩ := List.mem_map.1 ((srt_perm _).mem_iff.1 hv)
  exact ⟨x, hx, hL⟩
 ·rintro ⟨x, hx, hL⟩
  exact ⟨_, (srt_perm _).mem_iff.2 (List.mem_map_of_mem hx), hL⟩
theorem par_p {c : Int} (hc : 0 ≤ c ∧ c ≤ 255) : 0 ≤ IntKind.i64.wrap (1 + (IntKind.i64.wrap (c.tmod 20))) ∧ IntKind.i64.wrap (1 + (IntKind.i64.wrap (c.tmod 20))) ≤ 32 := by
 rw [Int.tmod_eq_emod_of_nonneg hc.1, wi (c % 20) (by omega), wi _ (by omega)]
 omega
theorem par_m {m : Int} (hm : 0 ≤ m ∧ m ≤ 65535) : 1 ≤ IntKind.u64.wrap (1 + (IntKind.u64.wrap m)) ∧ IntKind.u64.wrap (1 + (IntKind.u64.wrap m)) ≤ 1099511627776 := by
 rw [wu m (by omega), wu _ (by omega)]
 omega
theorem golombAny (k : Arr 2) (o l : List (List Int)) (c m : Int) (ho : ItemsIn o) (hi : ItemsIn l) (hc : 0 ≤ c ∧ c ≤ 255) (hm : 0 ≤ m ∧ m ≤ 65535) : Llaw19_GolombAny k o l c m = some true := by
 rw [Llaw19_GolombAny, sane_eq, bind_some', if_neg (by simp)]
 obtain ⟨b, hb, hb2⟩ := keep_eq o 20 60 ho.1
 obtain ⟨b', hb', hb2'⟩ := keep_eq l 12 60 hi.1
 have hp := par_p hc
 have hq := par_m hm
 rw [hb, bind_some']
 cases b with
 | false => rw [if_pos (by simp), bind_some', if_pos (by simp)]
 | true =>
  rw [if_neg (by simp), hb', bind_some', bind_some']
  cases b' with
  | false => rw [if_pos (by simp)]
  | true =>
   obtain ⟨g1, g2⟩ := hb2 rfl
   obtain ⟨g3, g4⟩ := hb2' rfl
   have hoi := items_of ho (by omega) g2
   have hli := items_of hi (by omega) g4
   rw [if_neg (by simp)]
   obtain ⟨r, r1, _, r3⟩ := build_both k o (IntKind.i64.wrap (1 + (IntKind.i64.wrap (c.tmod 20)))) (IntKind.u64.wrap (1 + (IntKind.u64.wrap m))) hoi (by omega)
   rw [r1, bind_some']
   rcases built (by omega) hp hq r3 with rfl | ⟨h0, hby, hcount, hdr⟩
   ·rw [if_pos (by simp)]
    simp
   ·rw [if_neg (by simp [h0])]
    have hdl := dfs_len o []
    simp only [List.length_nil, Nat.zero_add] at hdl
    have hmat : ∀ (t : List (List Int)), Items t → t.length ≤ 4096 → Lgolomb_Match k r.1 t (IntKind.i64.wrap (1 + (IntKind.i64.wrap (c.tmod 20)))) (IntKind.u64.wrap (1 + (IntKind.u64.wrap m))) = some (t.any fun x => decide (valI k r.1.1 (IntKind.u64.wrap (1 + (IntKind.u64.wrap m))) x ∈ srt ((dfs [] o).map (valI k r.1.1 (IntKind.u64.wrap (1 + (IntKind.u64.wrap m)))))), 0) := by
     intro t ht htl
     rw [gmatch_eq k r.1 t _ _ hby ht (by omega), MR_any htl (by omega) hq hdr]
    rw [hmat l hli (by omega), bind_some']
    generalize hg : (fun x => decide (valI k r.1.1 (IntKind.u64.wrap (1 + (IntKind.u64.wrap m))) x ∈ srt ((dfs [] o).map (valI k r.1.1 (IntKind.u64.wrap (1 + (IntKind.u64.wrap m))))))) = g at hmat
    obtain ⟨q, h1, rfl⟩ := runLoop_inv (step := Llaw19_GolombAny_s1 l k r c m (l.any g, 0)) (fun q s => ∃ i : Nat, s = ((l.take i).any g, (i : Int)) ∧ i ≤ l.length ∧ q = l.length - i) (fun q => q = true) (by
     rintro q s ⟨i, rfl, hil, rfl⟩
     by_cases h : i < l.length
     ·refine .inl ⟨l.length - (i + 1), ((l.take (i + 1)).any g, ((i + 1 : Nat) : Int)), by omega, ?_, i + 1, rfl, by omega, rfl⟩
      have hone : (l.take (i + 1)).drop i = [l[i]] := by
       rw [take_snoc _ _ h, List.drop_append_of_le_length (by simp; omega), List.drop_of_length_le (by simp; omega)]
       rfl
      simp only [Llaw19_GolombAny_s1, if_pos (show (i : Int) < (l.length : Int) by omega)]
      rw [wS (by omega), chk_bind (by omega), show (((i + 1 : Nat) : Int)).toNat = i + 1 by omega, show ((i : Int)).toNat = i by omega, hone, hmat [l[i]] (fun x hx => hli x (by rw [List.mem_singleton.1 hx]; exact List.getElem_mem h)) (by simp), bind_some', if_neg (by simp), take_snoc _ _ h, List.any_append]
     ·refine .inr ⟨true, ?_, rfl⟩
      simp only [Llaw19_GolombAny_s1, if_neg (show ¬ (i : Int) < (l.length : Int) by omega), Llaw19_GolombAny_k1]
      rw [List.take_of_length_le (by omega)]
      simp) _ (false, 0) ⟨0, by simp, by omega, rfl⟩
    exact h1
end Go.Lc
end
