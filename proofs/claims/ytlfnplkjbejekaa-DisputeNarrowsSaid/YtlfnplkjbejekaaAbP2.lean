import Derived.Test.YtlfnplkjbejekaaAbP1
section
namespace Go.Ab
open Go.RowKit
set_option linter.unusedVariables false

def Cell.notTip : Cell → Prop
  | .slice (.tip _) _ => False
  | _ => True
def PV.notTip : PV → Prop
  | .one c => c.notTip
  | _ => True
theorem Cell.un_notTip (c : Cell) : c.un.notTip := by
  cases c with
  | v x => trivial
  | slice o els => cases o <;> trivial
theorem PV.un_notTip (p : PV) : p.un.notTip := by
  cases p with
  | one c => exact Cell.un_notTip c
  | _ => trivial

section
variable {B : Nat} {w0 : World} {S0 S S' : Nat → Nat → Prop} {g g' : Nat → Option Occ} {bm bm' : Nat → Option Nat} {st : ASt} {a : Act} {w w' : World} {x x0 : Occ} {e : Nat}

theorem Tip0.regrant {v : Value} (hg : ∀ b x, b < w.heap.size → g b = some x → x ≠ x0 → g' b = some x) (h : Tip0 g S w B x e v) (hx : x ≠ x0) : Tip0 g' S w B x e v := by
  rcases h with h | ⟨b, o, n, c, arr, T, h0, h1, h2, h3, h4, h5⟩
  · exact .inl h
  · exact .inr ⟨b, o, n, c, arr, T, h0, hg b x (heap_lt h3) h1 hx, h2, h3, h4, h5⟩
theorem TipOk.regrant {els : List (List Cell)} {v : Value} (hg : ∀ b x, b < w.heap.size → g b = some x → x ≠ x0 → g' b = some x) (h : TipOk g S w B x e els v) (hx : x ≠ x0) : TipOk g' S w B x e els v := ⟨h.1.regrant hg hx, h.2⟩
theorem RepS.regrant {p : PV} {v : Value} (hg : ∀ b x, b < w.heap.size → g b = some x → x ≠ x0 → g' b = some x) (h : RepS g S w bm B x p v) (hx : x ≠ x0 ∨ p.notTip) : RepS g' S w bm B x p v := by
  unfold RepS at h ⊢
  split at h
  · rcases hx with hx | hx
    · exact ⟨h.1, h.2.regrant hg hx⟩
    · exact hx.elim
  · exact h
theorem RepO.regrant {p : Cell} {v : Value} (hg : ∀ b x, b < w.heap.size → g b = some x → x ≠ x0 → g' b = some x) (h : RepO g S w B x p v) (hx : x ≠ x0 ∨ p.notTip) : RepO g' S w B x p v := by
  unfold RepO at h ⊢
  split at h
  · rcases hx with hx | hx
    · exact ⟨h.1, h.2.regrant hg hx⟩
    · exact hx.elim
  · exact h
theorem SimX.regrant (h : SimX B w0 S0 S g bm st a w) (x0 : Occ) (g' : Nat → Option Occ) (hg : ∀ b x, b < w.heap.size → g b = some x → x ≠ x0 → g' b = some x)
    (hs : ∀ (i : Nat) p, st.env[i]? = some p → .slot i ≠ x0 ∨ p.notTip) (hb : ∀ (id : Nat) b, st.boxes[id]? = some b → .box id ≠ x0)
    (hc : ∀ (id : Nat) b (o : Nat) c, st.boxes[id]? = some b → b.cells[o]? = some c → .cell id o ≠ x0 ∨ c.notTip) : SimX B w0 S0 S g' bm st a w := by
  refine ⟨h.dfr, h.size, fun i p v hp hv => (h.slots i p v hp hv).regrant hg (hs i p hp), fun id b hbx => ?_, h.dom, h.below, h.base, h.mono, h.fresh, h.slt⟩
  obtain ⟨k, hk, hB⟩ := h.boxes id b hbx
  obtain ⟨arr, T, h1, h2, h3⟩ := hB.blk
  exact ⟨k, hk, hg _ _ (heap_lt h1) hB.own (hb id b hbx), hB.base, ⟨arr, T, h1, h2, fun o c v ho hv => (h3 o c v ho hv).regrant hg (hc id b o c hbx ho)⟩, hB.free, hB.held⟩

theorem SimX.put (h : SimX B w0 S0 S g bm st a w) (d : Nat) {p : PV} {v : Value} (hp : RepS g S w bm B (.slot d) p v) : SimX B w0 S0 S g bm ⟨st.env.set d p, st.boxes⟩ (a.put (some d) v) w := by
  refine ⟨h.dfr, by simp [Act.put, h.size], fun i q u hq hu => ?_, h.boxes, h.dom, h.below, h.base, h.mono, h.fresh, h.slt⟩
  simp only [Act.put] at hu
  rw [List.getElem?_set] at hq
  rw [Array.getElem?_setIfInBounds] at hu
  by_cases hd : d = i
  · subst hd
    simp at hq hu
    obtain ⟨_, rfl⟩ := hq
    obtain ⟨_, rfl⟩ := hu
    exact hp
  · simp only [hd, if_false] at hq hu
    exact h.slots i q u hq hu
theorem SimX.untag (h : SimX B w0 S0 S g bm st a w) (s : Nat) : SimX B w0 S0 S g bm ⟨st.env.set s (st.get s).un, st.boxes⟩ a w := by
  refine ⟨h.dfr, by simp [h.size], fun i q u hq hu => ?_, h.boxes, h.dom, h.below, h.base, h.mono, h.fresh, h.slt⟩
  rw [List.getElem?_set] at hq
  by_cases hd : s = i
  · subst hd
    simp at hq
    obtain ⟨hl, rfl⟩ := hq
    have := h.slots s st.env[s] u (by simp [hl]) hu
    refine RepS.of_V ?_
    have := this.un
    simpa [ASt.get, List.getD, hl] using this
  · simp only [hd, if_false] at hq
    exact h.slots i q u hq hu
theorem RepS.tip {p : PV} {v : Value} (h : RepS g S w bm B x p v) (ht : ¬ p.notTip) : ∃ e els, p = .one (.slice (.tip e) els) ∧ RepC S w (.slice .no els) v ∧ TipOk g S w B x e els v := by
  cases p with
  | one c => cases c with
    | slice o els => cases o with
      | tip e => exact ⟨e, els, rfl, h⟩
      | _ => exact absurd trivial ht
    | _ => exact absurd trivial ht
  | _ => exact absurd trivial ht
theorem RepS.V {p : PV} {v : Value} (h : RepS g S w bm B x p v) (ht : p.notTip) : RepV S w bm p v := by
  have := h.un
  cases p with
  | one c => cases c with
    | slice o els => cases o with
      | tip e => exact ht.elim
      | _ => exact this
    | _ => exact this
  | _ => exact this
theorem notTip_em (p : PV) : p.notTip ∨ ¬ p.notTip := Classical.em _
/-- the permission of slot s goes to x1 -/
def give (g : Nat → Option Occ) (x0 x1 : Occ) : Nat → Option Occ := fun b => if g b = some x0 then some x1 else g b
theorem give_keep {b : Nat} {x x0 x1 : Occ} (h : g b = some x) (hx : x ≠ x0) : give g x0 x1 b = some x := by
  unfold give
  rw [if_neg (by rw [h]; simpa using hx), h]
theorem Tip0.give {v : Value} (h : Tip0 g S w B x e v) (x1 : Occ) : Tip0 (give g x x1) S w B x1 e v := by
  rcases h with h | ⟨b, o, n, c, arr, T, h0, h1, h2, h3, h4, h5⟩
  · exact .inl h
  · exact .inr ⟨b, o, n, c, arr, T, h0, by simp [Ab.give, h1], h2, h3, h4, h5⟩
theorem TipOk.give {els : List (List Cell)} {v : Value} (h : TipOk g S w B x e els v) (x1 : Occ) : TipOk (Ab.give g x x1) S w B x1 e els v := ⟨h.1.give x1, h.2⟩
theorem set_notTip {st : ASt} {s i : Nat} {p : PV} (h : (st.env.set s (st.get s).un)[i]? = some p) : Occ.slot i ≠ .slot s ∨ p.notTip := by
  by_cases hi : i = s
  · subst hi
    rw [List.getElem?_set] at h
    simp at h
    obtain ⟨_, rfl⟩ := h
    exact .inr (PV.un_notTip _)
  · exact .inl (by simpa using hi)
/-- slot s gives its permission to x1 -/
theorem SimX.yield (h : SimX B w0 S0 S g bm st a w) (s : Nat) (x1 : Occ) : SimX B w0 S0 S (give g (.slot s) x1) bm ⟨st.env.set s (st.get s).un, st.boxes⟩ a w :=
  (h.untag s).regrant (.slot s) _ (fun b x _ hx hne => give_keep hx hne) (fun i p hp => set_notTip hp) (fun id b _ => by simp) (fun id b o c _ _ => .inl (by simp))
theorem RepS.give {p : PV} {v : Value} {s : Nat} (h : RepS g S w bm B (.slot s) p v) (d : Nat) : RepS (give g (.slot s) (.slot d)) S w bm B (.slot d) p v := by
  rcases notTip_em p with hp | hp
  · exact RepS.of_V (h.V hp)
  · obtain ⟨e, els, rfl, h1, h2⟩ := h.tip hp
    exact ⟨h1, h2.give _⟩
theorem SimX.moveTo (h : SimX B w0 S0 S g bm st a w) (s d : Nat) : SimX B w0 S0 S (Ab.give g (.slot s) (.slot d)) bm ⟨(st.env.set s (st.get s).un).set d (st.get s), st.boxes⟩ (a.put (some d) (a.tmps.getD s undef)) w :=
  (h.yield s (.slot d)).put d ((h.slot s).give d)

/-- one block that somebody owns is written -/
structure Wr (S S' : Nat → Nat → Prop) (w w' : World) (k : Nat) : Prop where
  os : w'.os = w.os
  tape : w'.tape = w.tape
  output : w'.output = w.output
  size : w'.heap.size = w.heap.size
  other : ∀ b, b ≠ k → w'.heap[b]? = w.heap[b]?
  mono : ∀ b o, S b o → S' b o
  new : ∀ b o, S' b o → S b o ∨ b = k
  keep : ∀ o, S k o → w'.cell? ⟨k, o, none⟩ = w.cell? ⟨k, o, none⟩
theorem Wr.cell {k : Nat} (h : Wr S S' w w' k) (b o : Nat) (hs : S b o) : w'.cell? ⟨b, o, none⟩ = w.cell? ⟨b, o, none⟩ := by
  by_cases hb : b = k
  · subst hb; exact h.keep o hs
  · exact World.cell?_of_block (a := ⟨b, o, none⟩) (h.other b hb)
theorem Tip0.write {k : Nat} {v : Value} (h : Tip0 g S w B x e v) (hk : g k ≠ some x) (hw : Wr S S' w w' k) : Tip0 g S' w' B x e v := by
  rcases h with h | ⟨b, o, n, c, arr, T, h0, h1, h2, h3, h4, h5⟩
  · exact .inl h
  · have hne : b ≠ k := by rintro rfl; exact hk h1
    refine .inr ⟨b, o, n, c, arr, T, h0, h1, h2, (hw.other b hne).trans h3, h4, fun j hj hs => ?_⟩
    rcases hw.new _ _ hs with h | h
    · exact h5 j hj h
    · exact hne h
theorem TipOk.write {k : Nat} {els : List (List Cell)} {v : Value} (h : TipOk g S w B x e els v) (hk : g k ≠ some x) (hw : Wr S S' w w' k) : TipOk g S' w' B x e els v := ⟨h.1.write hk hw, h.2⟩
theorem RepS.write {k : Nat} {p : PV} {v : Value} (h : RepS g S w bm B x p v) (hk : g k ≠ some x ∨ p.notTip) (hw : Wr S S' w w' k) : RepS g S' w' bm B x p v := by
  rcases notTip_em p with hp | hp
  · exact RepS.of_V ((h.V hp).mono hw.mono hw.cell)
  · obtain ⟨e, els, rfl, h1, h2⟩ := h.tip hp
    exact ⟨h1.mono hw.mono hw.cell, h2.write (hk.resolve_right hp) hw⟩
theorem RepO.toS {c : Cell} {v : Value} (h : RepO g S w B x c v) : RepS g S w bm B x (.one c) v := by
  unfold RepO at h
  split at h
  · exact h
  · exact RepS.of_V (.base (.one h))
theorem RepS.toO {c : Cell} {v : Value} (h : RepS g S w bm B x (.one c) v) : RepO g S w B x c v := by
  rcases notTip_em (.one c) with hp | hp
  · have := h.V hp
    cases this with
    | base h => cases h with
      | one h => exact RepO.of_C h
  · obtain ⟨e, els, he, h1, h2⟩ := h.tip hp
    simp at he
    subst he
    exact ⟨h1, h2⟩
theorem RepO.write {k : Nat} {p : Cell} {v : Value} (h : RepO g S w B x p v) (hk : g k ≠ some x ∨ p.notTip) (hw : Wr S S' w w' k) : RepO g S' w' B x p v :=
  (RepS.write (bm := fun _ => none) h.toS hk hw).toO
theorem SimX.write_slot (h : SimX B w0 S0 S g bm st a w) {k s : Nat} (hk : g k = some (.slot s)) (hs : ∀ p, st.env[s]? = some p → p.notTip) (hB : B ≤ k) (hlt : k < w.heap.size) (hw : Wr S S' w w' k) : SimX B w0 S0 S' g bm st a w' := by
  refine ⟨h.dfr, h.size, fun i p v hp hv => (h.slots i p v hp hv).write ?_ hw, fun id b hb => ?_, h.dom, ?_, by rw [hw.size]; exact h.base, fun b o hs => hw.mono _ _ (h.mono _ _ hs), fun b o hs => ?_, fun b o hs => ?_⟩
  · by_cases hi : i = s
    · subst hi; exact .inr (hs p hp)
    · left; rw [hk]; simp; exact fun e => hi e.symm
  · obtain ⟨k', hk', hb'⟩ := h.boxes id b hb
    obtain ⟨arr, T, h1, h2, h3⟩ := hb'.blk
    have hne : k' ≠ k := by rintro rfl; rw [hb'.own] at hk; simp at hk
    refine ⟨k', hk', hb'.own, hb'.base, ⟨arr, T, (hw.other _ hne).trans h1, h2, fun o c v ho hv => (h3 o c v ho hv).write (.inl (by rw [hk]; simp)) hw⟩, fun hf o hs => ?_, fun hf o ho => hw.mono _ _ (hb'.held hf o ho)⟩
    rcases hw.new _ _ hs with h' | h'
    · exact hb'.free hf o h'
    · exact hne h'
  · exact h.below.trans ⟨hw.os, hw.tape, hw.output, by rw [hw.size]; exact Nat.le_refl _, fun b hb => hw.other b (by omega)⟩
  · rcases hw.new _ _ hs with h' | h'
    · exact h.fresh _ _ h'
    · subst h'; exact .inr hB
  · rw [hw.size]
    rcases hw.new _ _ hs with h' | h'
    · exact h.slt _ _ h'
    · subst h'; exact hlt
theorem SimX.write_box (h : SimX B w0 S0 S g bm st a w) {k id : Nat} {b' : Box} (hbm : bm id = some k) (hk : g k = some (.box id)) (hB : B ≤ k) (hw : Wr S S w w' k) (hnew : BoxAt g S w' B id k b') : SimX B w0 S0 S g bm ⟨st.env, st.boxes.set id b'⟩ a w' := by
  refine ⟨h.dfr, h.size, fun i p v hp hv => (h.slots i p v hp hv).write (.inl (by rw [hk]; simp)) hw, fun id2 b hb => ?_, fun id2 k2 h2 => by simpa using h.dom id2 k2 h2, ?_, by rw [hw.size]; exact h.base, h.mono, h.fresh, fun b o hs => by rw [hw.size]; exact h.slt _ _ hs⟩
  · rw [List.getElem?_set] at hb
    by_cases hid : id = id2
    · subst hid
      simp at hb
      obtain ⟨_, rfl⟩ := hb
      exact ⟨k, hbm, hnew⟩
    · simp only [hid, if_false] at hb
      obtain ⟨k', hk', hb'⟩ := h.boxes id2 b hb
      obtain ⟨arr, T, h1, h2, h3⟩ := hb'.blk
      have hne : k' ≠ k := by rintro rfl; rw [hb'.own] at hk; simp at hk; exact hid hk.symm
      exact ⟨k', hk', hb'.own, hb'.base, ⟨arr, T, (hw.other _ hne).trans h1, h2, fun o c v ho hv => (h3 o c v ho hv).write (.inl (by rw [hk]; simp)) hw⟩, hb'.free, hb'.held⟩
  · exact h.below.trans ⟨hw.os, hw.tape, hw.output, by rw [hw.size]; exact Nat.le_refl _, fun b hb => hw.other b (by omega)⟩

theorem RepB.bm_mono {p : PV} {v : Value} (h : RepB S w bm p v) (hb : ∀ id k, bm id = some k → bm' id = some k) : RepB S w bm' p v := by
  cases h with
  | undef => exact .undef _
  | skip => exact .skip
  | one h => exact .one h
  | agg h => exact .agg h
  | ref b o vs h1 h2 h3 => exact .ref b o vs h1 h2 h3
  | ptr id off k h => exact .ptr id off k (hb _ _ h)
  | mref id off n e c k h h1 h2 => exact .mref id off n e c k (hb _ _ h) h1 h2
theorem RepV.bm_mono {p : PV} {v : Value} (h : RepV S w bm p v) (hb : ∀ id k, bm id = some k → bm' id = some k) : RepV S w bm' p v := by
  cases h with
  | base h => exact .base (h.bm_mono hb)
  | tup h => exact .tup (All2.mono h fun _ _ h => h.bm_mono hb)
theorem RepS.bm_mono {p : PV} {v : Value} (h : RepS g S w bm B x p v) (hb : ∀ id k, bm id = some k → bm' id = some k) : RepS g S w bm' B x p v := by
  rcases notTip_em p with hp | hp
  · exact RepS.of_V ((h.V hp).bm_mono hb)
  · obtain ⟨e, els, rfl, h1, h2⟩ := h.tip hp
    exact ⟨h1, h2⟩
theorem grow_alloc (hl : ∀ b o, S b o → b < w.heap.size) (o : Obj) : Grow S S w (w.alloc o) :=
  ⟨(Below.refl _ _).alloc (Nat.le_refl _) o, fun _ _ h => h, fun _ _ h => .inl h, fun b k h => by have := hl b k h; simp; omega⟩
/-- a new variable -/
theorem SimX.alloc (h : SimX B w0 S0 S g bm st a w) {cs : List Cell} {vs : List Value} (T : TypeId) (hr : RepL S w cs vs) :
    ∃ g' bm', bm' st.boxes.length = some w.heap.size ∧ SimX B w0 S0 S g' bm' ⟨st.env, st.boxes ++ [⟨cs, false⟩]⟩ a (w.alloc (.cells vs.toArray T)) := by
  let g' : Nat → Option Occ := fun b => if b = w.heap.size then some (.box st.boxes.length) else g b
  let bm' : Nat → Option Nat := fun id => if id = st.boxes.length then some w.heap.size else bm id
  have hbm : ∀ id k, bm id = some k → bm' id = some k := fun id k hk => by
    have := h.dom id k hk
    simp only [bm']; rw [if_neg (by omega)]; exact hk
  have h1 : SimX B w0 S0 S g' bm st a w := h.regrant (.box st.boxes.length) g' (fun b x hb hx _ => by simp only [g']; rw [if_neg (by omega)]; exact hx) (fun _ _ _ => .inl (by simp))
    (fun id b hb => by have := getElem_pos hb; simp; omega) (fun _ _ _ _ _ _ => .inl (by simp))
  have h2 := h1.grow (grow_alloc h.slt (.cells vs.toArray T))
  refine ⟨g', bm', by simp [bm'], h2.dfr, h2.size, fun i p v hp hv => (h2.slots i p v hp hv).bm_mono hbm, fun id b hb => ?_, fun id k hk => ?_, h2.below, h2.base, h2.mono, h2.fresh, h2.slt⟩
  · simp only [List.getElem?_append] at hb
    split at hb
    · obtain ⟨k, hk, hB⟩ := h2.boxes id b hb
      exact ⟨k, hbm _ _ hk, hB⟩
    · rename_i hge
      have hid : id = st.boxes.length := by
        have := getElem_pos hb
        simp at this
        omega
      subst hid
      simp at hb
      subst hb
      refine ⟨w.heap.size, by simp [bm'], by simp [g'], h.base, ⟨vs.toArray, T, heap_alloc_new w _, by simp [hr.length], fun o c v hc hv => ?_⟩, fun _ o hs => ?_, fun hf => by simp at hf⟩
      · obtain ⟨v', hv', hcv⟩ := hr.get hc
        have : v' = v := by simpa [hv'] using hv
        subst this
        exact RepO.of_C (hcv.grow h.slt (grow_alloc h.slt _))
      · exact Nat.lt_irrefl _ (h.slt _ _ hs)
  · simp only [bm'] at hk
    split at hk
    · simp; omega
    · have := h.dom id k hk
      simp; omega
end
end Go.Ab
end
section
namespace Go.Ab
open Go.RowKit
set_option linter.unusedVariables false

/-- function f computes F, on data -/
def Impl (P : Program) (f : FuncId) (F : List PV → Option PV) : Prop :=
  (∃ fn, P.funcs[f]? = some fn ∧ fn.body.isNone = false ∧ (fn.name == "runtime.NumGoroutine") = false) ∧
  ∀ (S : Nat → Nat → Prop) (w : World) (ps : List PV) (vs : List Value) (r : PV), (∀ b o, S b o → b < w.heap.size) → ps.all isData = true → All2 (RepB S w fun _ => none) ps vs → F ps = some r →
    Calls P f vs.toArray w fun e w' => ∃ v S', e = .returned v ∧ RepV S' w' (fun _ => none) r v ∧ Grow S S' w w'

section
variable {P : Program} {tt : TT} {T : Tab} {B : Nat} {w0 : World} {S0 S S' : Nat → Nat → Prop} {g g' : Nat → Option Occ} {bm bm' : Nat → Option Nat} {st st' : ASt} {a : Act} {w w' : World} {Q : Exit → Act → World → Prop} {o : Oper}

theorem wp_value {K : Act → World → Prop} {v : Value} (h : (execOp a.eval o).run P w = .ok (.value v) w') (hk : K (a.put o.dst v) w') : o.wp P a w K Q := by
  unfold Oper.wp
  rw [h]
  exact hk
theorem wp_skip' {K : Act → World → Prop} (h : (execOp a.eval o).run P w = .ok .skip w') (hk : K (a.put o.dst undef) w') : o.wp P a w K Q := by
  unfold Oper.wp
  rw [h]
  exact hk
theorem SimX.putDst (h : SimX B w0 S0 S g bm st a w) (d : Option Nat) {p : PV} {v : Value} (hp : RepV S w bm p v) : SimX B w0 S0 S g bm ⟨setAll st.env (putD d p), st.boxes⟩ (a.put d v) w := by
  cases d with
  | none => exact h
  | some d => exact h.put d (RepS.of_V hp)

theorem All2.un_of {cs : List Cell} {vs : List Value} (hl : vs.length = cs.length) {id : Nat} (h : ∀ (o : Nat) c v, cs[o]? = some c → vs[o]? = some v → RepO g S w B (.cell id o) c v) : RepL S w (unCells cs) vs := by
  refine All2.of_get (by simp [unCells, hl]) fun i x y hx hy => ?_
  simp only [unCells, List.getElem?_map] at hx
  cases hc : cs[i]? with
  | none => simp [hc] at hx
  | some c =>
    simp [hc] at hx
    subst hx
    exact (h i c y hc hy).un
theorem partC_un {i : TI} {cs : List Cell} {off : Nat} {p : PV} (h : partC i cs off = some p) : partC i (unCells cs) off = some p.unA := by
  unfold partC at h ⊢
  by_cases hag : i.agg = true
  · rw [if_pos hag] at h ⊢
    split at h <;> simp at h
    rename_i hle
    subst h
    rw [if_pos (by simpa [unCells] using hle)]
    simp [PV.unA, unCells, List.map_take, List.map_drop]
  · rw [if_neg hag] at h ⊢
    cases hc : cs[off]? with
    | none => simp [hc] at h
    | some c =>
      simp [hc] at h
      subst h
      simp [unCells, hc, PV.unA]

theorem load_ok (htt : ∀ t i, tt t = some i → tinfo P t = some i) (h : SimX B w0 S0 S g bm st a w) {ops : List Oper} {t : TypeId} {x : Operand} {u : Upd} (ho : o.op = .load t x) (hu : eff tt T ops o st.get st.boxes = some u) :
    o.wp P a w (Sim B w0 S0 (u.app st)) Q := by
  unfold eff at hu
  rw [ho] at hu
  simp only at hu
  have hex : ∀ {v : Value}, (Instr.loadAt t (a.eval x)).run P w = .ok v w → (execOp a.eval o).run P w = .ok (.value v) w := by
    intro v hv
    simp [execOp, ho, hv]
  split at hu
  · rename_i i cs hi hx
    split at hu <;> simp at hu
    rename_i p hp
    subst hu
    have hb := h.evalB hx (by simp)
    generalize a.eval x = vx at hb hex
    cases hb with
    | ref b o' vs h1 h2 h3 =>
      obtain ⟨v, hv, hr⟩ := run_loadVar_part (P := P) (bm := bm) (tinfo_spec (htt _ _ hi)) h1 (b := b) (o := o') h3 hp
      refine wp_value (hex (v := v) ?_) ⟨S, g, bm, h.putDst o.dst (.base hr)⟩
      simpa [Instr.loadAt, Instr.sureAddr] using hv
  · rename_i i id off hi hx
    split at hu
    · simp at hu
    split at hu
    · rename_i b hb
      have hp' := h.evalB hx (by simp)
      generalize a.eval x = vx at hp' hex
      cases hp' with
      | ptr _ _ k hk =>
        obtain ⟨k', hk', hB⟩ := h.boxes id b hb
        obtain rfl : k = k' := by rw [hk] at hk'; simpa using hk'
        obtain ⟨arr, T', h1, h2, h3⟩ := hB.blk
        have hlies : Lies w k 0 arr.toList := fun j u hu => by
          rw [Nat.zero_add]
          simp [World.cell?, h1]
          simpa using hu
        have hrep : RepL S w (unCells b.cells) arr.toList := All2.un_of (by simpa using h2) (fun o c v hc hv => h3 o c v hc (by simpa using hv))
        split at hu
        · rename_i hw
          simp at hw
          split at hu <;> simp at hu
          rename_i c hc
          subst hu
          have hlt := getElem_pos hc
          have harr : arr[off]? = some arr[off] := by simp [h2, hlt]
          have hO := h3 off c arr[off] hc harr
          have hrun : (Instr.loadAt t (.pointer (some ⟨k, off, none⟩))).run P w = .ok arr[off] w := by
            have hcell : w.cell? ⟨k, off, none⟩ = some arr[off] := by simp [World.cell?, h1, harr]
            simp [Instr.loadAt, Instr.sureAddr, loadVar, (tinfo_spec (htt _ _ hi)).run_agg, hw.2, hcell]
          refine wp_value (hex hrun) ?_
          cases hd : o.dst with
          | none => simp [hd, wants] at hw
          | some d =>
            have hnew : BoxAt g S w B id k ⟨b.cells.set off c.un, false⟩ := by
              refine ⟨hB.own, hB.base, ⟨arr, T', h1, by simpa using h2, fun o' c' v' ho' hv' => ?_⟩, fun _ => hB.free hw.1.2, fun hf => by simp at hf⟩
              simp only [List.getElem?_set] at ho'
              by_cases ho2 : off = o'
              · subst ho2
                simp at ho'
                obtain ⟨_, rfl⟩ := ho'
                exact RepO.of_C (h3 off c v' hc hv').un
              · simp only [ho2, if_false] at ho'
                exact h3 o' c' v' ho' hv'
            have hs1 := h.write_box (b' := ⟨b.cells.set off c.un, false⟩) hk hB.own hB.base ⟨rfl, rfl, rfl, rfl, fun _ _ => rfl, fun _ _ h => h, fun _ _ h => .inl h, fun _ _ => rfl⟩ hnew
            have hs2 := hs1.regrant (.cell id off) (give g (.cell id off) (.slot d)) (fun b x _ hx hne => give_keep hx hne) (fun _ _ _ => .inl (by simp)) (fun _ _ _ => by simp) (fun id2 b2 o2 c2 hb2 hc2 => by
              by_cases hid : id2 = id ∧ o2 = off
              · obtain ⟨rfl, rfl⟩ := hid
                simp only [List.getElem?_set] at hb2
                simp at hb2
                obtain ⟨_, rfl⟩ := hb2
                simp only [List.getElem?_set] at hc2
                simp only [if_true] at hc2
                split at hc2
                · injection hc2 with hc2
                  subst hc2
                  exact .inr (Cell.un_notTip _)
                · rename_i hn
                  exact absurd hlt hn
              · left; simpa using hid)
            refine ⟨S, _, bm, hs2.put d ?_⟩
            have hO' : RepS g S w bm B (.cell id off) (.one c) arr[off] := hO.toS
            rcases notTip_em (.one c) with hp | hp
            · exact RepS.of_V (hO'.V hp)
            · obtain ⟨e, els, he, t1, t2⟩ := hO'.tip hp
              rw [he]
              exact ⟨t1, t2.give _⟩
        · split at hu <;> simp at hu
          rename_i p hp
          subst hu
          obtain ⟨v, hv, hr⟩ := run_loadVar_part (P := P) (bm := bm) (tinfo_spec (htt _ _ hi)) hrep hlies (partC_un hp)
          rw [Nat.zero_add] at hv
          refine wp_value (hex (v := v) ?_) ⟨S, g, bm, h.putDst o.dst (.base hr)⟩
          simpa [Instr.loadAt, Instr.sureAddr] using hv
    · simp at hu
  · simp at hu

theorem taken_ok (h : SimX B w0 S0 S g bm st a w) {y : Operand} {p : PV} {ws : List (Nat × PV)} (ht : taken st.get y = some (p, ws)) (x1 : Occ) :
    ∃ g', SimX B w0 S0 S g' bm ⟨setAll st.env ws, st.boxes⟩ a w ∧ RepS g' S w bm B x1 p (a.eval y) ∧ (∀ b id, g b = some (.box id) → g' b = some (.box id)) := by
  cases y with
  | tmp s =>
    simp [taken] at ht
    obtain ⟨rfl, rfl⟩ := ht
    refine ⟨give g (.slot s) x1, h.yield s x1, ?_, fun b id hb => give_keep hb (by simp)⟩
    have := h.slot s
    rcases notTip_em (st.get s) with hp | hp
    · exact RepS.of_V (this.V hp)
    · obtain ⟨e, els, he, t1, t2⟩ := this.tip hp
      rw [he]
      exact ⟨t1, t2.give _⟩
  | const v =>
    simp only [taken, rdT] at ht
    split at ht <;> simp at ht
    rename_i q hq
    obtain ⟨rfl, rfl⟩ := ht
    exact ⟨g, h, RepS.of_V (.base (ofConst_rep hq)), fun _ _ hb => hb⟩
  | global _ => simp [taken, rdT] at ht
  | func _ => simp [taken, rdT] at ht

theorem nilTip_spec {t : TypeId} {x : Operand} {p : PV} (h : nilTip tt t x = some p) : x = .const (.slice none 0 0) ∧ ∃ e, 0 < e ∧ p = .one (.slice (.tip e) []) := by
  unfold nilTip at h
  split at h
  · split at h
    · split at h
      · split at h
        · split at h <;> simp at h
          rename_i j _ hj
          exact ⟨rfl, j.size, hj, h.symm⟩
        · simp at h
      · simp at h
    · simp at h
  · simp at h
theorem takenT_ok (h : SimX B w0 S0 S g bm st a w) {t : TypeId} {y : Operand} {p : PV} {ws : List (Nat × PV)} (ht : takenT tt t st.get y = some (p, ws)) (x1 : Occ) :
    ∃ g', SimX B w0 S0 S g' bm ⟨setAll st.env ws, st.boxes⟩ a w ∧ RepS g' S w bm B x1 p (a.eval y) ∧ (∀ b id, g b = some (.box id) → g' b = some (.box id)) := by
  unfold takenT at ht
  split at ht
  · rename_i q hq
    simp at ht
    obtain ⟨rfl, rfl⟩ := ht
    obtain ⟨rfl, e, he, rfl⟩ := nilTip_spec hq
    refine ⟨g, h, ⟨?_, .inl ⟨none, rfl⟩, by simp⟩, fun _ _ hb => hb⟩
    exact .slice [] none 0 e 0 0 (fun _ _ => undef) (Nat.le_refl _) (Nat.zero_le _) (by simp) he (by simp) (by simp) (by simp)
  · exact taken_ok h ht x1

theorem BoxAt.store {id k off : Nat} {b : Box} {ds : List Cell} {us : List Value} (hB : BoxAt g S w B id k b) (hf : b.frz = false) (hl : us.length = ds.length)
    (hds : ∀ (j : Nat) c v, ds[j]? = some c → us[j]? = some v → RepO g S w B (.cell id (off + j)) c v) (hle : off + ds.length ≤ b.cells.length) (h1 : ∀ v ∈ us, v.oneCell' = true) :
    ∃ w', (storeCells ⟨k, off, none⟩ us).run P w = .ok () w' ∧ Wr S S w w' k ∧ BoxAt g S w' B id k ⟨putCells b.cells off ds, false⟩ := by
  obtain ⟨arr, T, ha1, ha2, ha3⟩ := hB.blk
  have hrun := run_storeCells_at P k off T us 0 arr w ha1 (by rw [hl, ha2]; omega) h1
  simp only [Nat.add_zero] at hrun
  have hlt := heap_lt ha1
  have hw : Wr S S w (w.setRow k (arr.toList.take off ++ us ++ arr.toList.drop (off + us.length)).toArray) k :=
    ⟨rfl, rfl, rfl, by simp [World.setRow], fun b hb => setRow_other w k b _ hb, fun _ _ h => h, fun _ _ h => .inl h, fun o hs => absurd hs (hB.free hf o)⟩
  refine ⟨_, hrun, hw, hB.own, hB.base, ⟨_, T, setRow_heap w k arr _ T _ ha1, ?_, fun o c v ho hv => ?_⟩, fun _ => hB.free hf, fun hf => by simp at hf⟩
  · simp [putCells, hl, ha2]
  · simp only [putCells, List.getElem?_append, List.length_append, List.length_take] at ho
    simp only [List.getElem?_toArray, List.getElem?_append, List.length_append, List.length_take, Array.length_toList] at hv
    have hm1 : min off b.cells.length = off := by omega
    have hm2 : min off arr.size = off := by omega
    rw [hm1] at ho
    rw [hm2, hl] at hv
    have hkx : ∀ o', g k ≠ some (.cell id o') := fun o' => by rw [hB.own]; simp
    split at ho
    · rename_i hlt1
      rw [if_pos hlt1] at hv
      split at ho
      · rename_i hlt2
        rw [if_pos hlt2] at hv
        simp [hlt2] at ho hv
        exact (ha3 o c v ho hv).write (.inl (hkx _)) hw
      · rename_i hge2
        rw [if_neg hge2] at hv
        have := hds (o - off) c v ho hv
        rw [show off + (o - off) = o by omega] at this
        exact this.write (.inl (hkx _)) hw
    · rename_i hge1
      rw [if_neg hge1] at hv
      simp [List.getElem?_drop] at ho hv
      rw [show off + ds.length + (o - (off + ds.length)) = o by omega] at ho hv
      exact (ha3 o c v ho hv).write (.inl (hkx _)) hw

theorem store_ok (htt : ∀ t i, tt t = some i → tinfo P t = some i) (h : SimX B w0 S0 S g bm st a w) {ops : List Oper} {t : TypeId} {x y : Operand} {u : Upd} (ho : o.op = .store t x y) (hu : eff tt T ops o st.get st.boxes = some u) :
    o.wp P a w (Sim B w0 S0 (u.app st)) Q := by
  unfold eff at hu
  rw [ho] at hu
  simp only at hu
  split at hu
  · rename_i i id off p ws hi hx hy
    split at hu
    · rename_i b ds hb hds
      split at hu <;> simp at hu
      rename_i hcond
      obtain ⟨hdst, hf, hlen, hle⟩ := hcond
      subst hu
      have hp' := h.evalB hx (by simp)
      have hex : ∀ {w'}, (Instr.storeAt t (a.eval x) (a.eval y)).run P w = .ok () w' → (execOp a.eval o).run P w = .ok .skip w' := by
        intro w' hv
        simp [execOp, ho, hv]
      generalize a.eval x = vx at hp' hex
      cases hp' with
      | ptr _ _ k hk =>
        obtain ⟨g1, hs1, hr1, hg1⟩ := takenT_ok h hy (.cell id off)
        obtain ⟨k', hk', hB⟩ := hs1.boxes id b hb
        obtain rfl : k = k' := by rw [hk] at hk'; simpa using hk'
        have hvals : ∃ us : List Value, (a.eval y).cells.toList = us ∧ us.length = ds.length ∧ (∀ (j : Nat) c v, ds[j]? = some c → us[j]? = some v → RepO g1 S w B (.cell id (off + j)) c v) ∧ ∀ v ∈ us, v.oneCell' = true := by
          generalize a.eval y = vy at hr1 hex
          cases p with
          | one c =>
            simp [PV.cells] at hds
            subst hds
            have hO := hr1.toO
            have h1 := hO.un.one
            have hc : vy.cells.toList = [vy] := by cases vy <;> simp_all [Value.cells, Value.oneCell']
            refine ⟨[vy], hc, rfl, fun j c' v hj hv => ?_, by simpa using h1⟩
            cases j with
            | zero => simp at hj hv; subst hj hv; exact hO
            | succ j => simp at hj
          | agg cs =>
            simp [PV.cells] at hds
            subst hds
            have := hr1.V trivial
            cases this with
            | base this => cases this with
              | agg hl =>
                rename_i vs
                refine ⟨vs, by simp [Value.cells], hl.length.symm, fun j c v hj hv => ?_, fun v hv => ?_⟩
                · obtain ⟨v', hv', hcv⟩ := All2.get hl hj
                  have : v' = v := by rw [hv] at hv'; simpa using hv'.symm
                  subst this
                  exact RepO.of_C hcv
                · obtain ⟨j, hj⟩ := List.getElem?_of_mem hv
                  have hjl : j < cs.length := by rw [All2.length hl]; exact getElem_pos hj
                  obtain ⟨v', hv', hcv⟩ := All2.get hl (i := j) (a := cs[j]) (by simp [hjl])
                  have : v' = v := by rw [hj] at hv'; simpa using hv'.symm
                  subst this
                  exact hcv.one
          | _ => simp [PV.cells] at hds
        obtain ⟨us, hus, hul, hur, hu1⟩ := hvals
        obtain ⟨w', hrun, hw, hnew⟩ := hB.store (P := P) hf hul hur hle hu1
        have hs2 := hs1.write_box hk hB.own hB.base hw hnew
        refine wp_skip' (hex (w' := w') ?_) ⟨S, g1, bm, ?_⟩
        · have hsz : (a.eval y).cells.size = i.size := by rw [← hlen, ← hul, ← hus]; simp
          simp [Instr.storeAt, Instr.sureAddr, storeVar, (tinfo_spec (htt _ _ hi)).run_size, hsz, hus, hrun]
        · rw [hdst]
          exact hs2
    · simp at hu
  · simp at hu
end
end Go.Ab
end
section
namespace Go.Ab
open Go.RowKit
set_option linter.unusedVariables false
section
variable {P : Program} {tt : TT} {T : Tab} {B : Nat} {w0 : World} {S0 S S' : Nat → Nat → Prop} {g g' : Nat → Option Occ} {bm bm' : Nat → Option Nat} {st st' : ASt} {a : Act} {w w' : World} {Q : Exit → Act → World → Prop} {o : Oper}

theorem RepB.data {p : PV} {v : Value} (h : RepB S w bm p v) (hp : isData p = true) : RepB S w bm' p v := by
  cases h with
  | one h => exact .one h
  | agg h => exact .agg h
  | _ => simp [isData] at hp
theorem datas {ps : List PV} {vs : List Value} (h : All2 (RepV S w bm) ps vs) (hp : ps.all isData = true) : All2 (RepB S w bm') ps vs := by
  induction h with
  | nil => exact .nil
  | cons h _ ih =>
    simp at hp
    refine .cons ?_ (ih (by simpa using hp.2))
    cases h with
    | base h => exact h.data hp.1
    | tup h => simp [isData] at hp
theorem res_data {r : PV} {v : Value} (h : RepV S w bm r v) (hr : isRes r = true) : RepV S w bm' r v := by
  cases h with
  | base h =>
    refine .base (h.data ?_)
    cases h <;> simp_all [isRes, isData]
  | tup h =>
    refine .tup ?_
    simp only [isRes] at hr
    induction h with
    | nil => exact .nil
    | cons h _ ih =>
      simp at hr
      exact .cons (h.data hr.1) (ih (by simpa using hr.2))

theorem RepC.nn {c : Cell} {v : Value} (h : RepC S w c v) : RepC S w c.nn v := by
  cases h with
  | v _ h1 h2 => exact .v _ h1 h2
  | nil a => exact .slice [] a 0 1 0 0 (fun _ _ => undef) (Nat.le_refl _) (Nat.zero_le _) (by simp) (by omega) (by simp) (by simp) (by simp)
  | slice els a c e b o m hc hx he h0 ha hm hr => exact .slice els a c e b o m hc hx he h0 ha hm hr
theorem RepB.nn {p : PV} {v : Value} (h : RepB S w bm p v) : RepB S w bm p.nnB v := by
  cases h with
  | undef => exact .undef _
  | skip => exact .skip
  | one h => exact .one h.nn
  | agg h => exact .agg (All2.map_left h fun _ _ h => h.nn)
  | ref b o vs h1 h2 h3 => exact .ref b o vs h1 h2 h3
  | ptr id off k h => exact .ptr id off k h
  | mref id off n e c k h h1 h2 => exact .mref id off n e c k h h1 h2
theorem RepV.nn {p : PV} {v : Value} (h : RepV S w bm p v) : RepV S w bm p.nn v := by
  cases h with
  | base h =>
    have := h.nn
    cases h <;> exact .base this
  | tup h => exact .tup (All2.map_left h fun _ _ h => h.nn)
theorem isData_nn {ps : List PV} (h : ps.all isData = true) : (ps.map PV.nnB).all isData = true := by
  induction ps with
  | nil => rfl
  | cons p ps ih =>
    simp at h ⊢
    refine ⟨?_, by simpa using ih (by simpa using h.2)⟩
    cases p <;> simp_all [isData, PV.nnB]
theorem call_ok (hT : ∀ f F, T f = some F → Impl P f F) (h : SimX B w0 S0 S g bm st a w) {f : FuncId} {args : Array Operand} {ts : Array TypeId} {p : PV}
    (ho : o.op = .call { callee := .value (.func f), args := args, argTypes := ts }) (hu : makeOp tt T st.get o.op = some p) :
    o.wp P a w (Sim B w0 S0 (Upd.app ⟨putD o.dst p, none⟩ st)) Q := by
  rw [ho] at hu
  simp only [makeOp] at hu
  split at hu
  · rename_i ps F hps hF
    split at hu
    · rename_i hall
      split at hu
      · rename_i r hr
        split at hu <;> simp at hu
        rename_i hres
        subst hu
        obtain ⟨⟨fn, hfn, hbody, hname⟩, hcall⟩ := hT f F hF
        have hargs := rds_ok h hps
        have hrun : (execOp a.eval o).run P w = .ok (.enter f (args.map a.eval)) w := by
          simp only [execOp, ho, resolve, Act.eval, Deferred.ofValue, Sem.run_bind, Sem.run_pure, Result.andThen_ok, invoke, callFunc, run_program, hfn]
          simp [hname, hbody]
        unfold Oper.wp
        rw [hrun]
        simp only [Oper.upon]
        have hc := hcall S w _ _ r h.slt (isData_nn hall) (All2.map_left (datas hargs hall) fun _ _ h => h.nn) hr
        have he : (List.map a.eval args.toList).toArray = args.map a.eval := by rw [← Array.toList_map]
        rw [he] at hc
        refine hc.mono ?_
        rintro e w' ⟨v, S', rfl, hrep, hg⟩
        exact ⟨S', g, bm, (h.grow hg).putDst o.dst (res_data hrep hres)⟩
      · simp at hu
    · simp at hu
  · simp at hu

theorem fill_row {s : Nat} : ∀ (us : List Value) (k : Nat) (cur : List Value), (∀ u ∈ us, u.cells.size = s) → (k + us.length) * s ≤ cur.length →
    Instr.fill (fun i => some (i * s, s)) cur.toArray ((us.zipIdx k).map fun x => (x.2, x.1)) = some (cur.take (k * s) ++ (us.map (·.cells.toList)).flatten ++ cur.drop ((k + us.length) * s)).toArray
  | [], k, cur, _, _ => by simp [Instr.fill]
  | u :: us, k, cur, hu, hl => by
    have hs : u.cells.size = s := hu u (by simp)
    simp only [List.length_cons] at hl
    have hk : k * s + s ≤ cur.length := by
      have : (k + (us.length + 1)) * s = k * s + s + us.length * s := by rw [Nat.add_mul, Nat.add_mul]; omega
      omega
    simp only [List.zipIdx_cons, List.map_cons, Instr.fill]
    rw [if_neg (by simp [hs]; omega)]
    have key : ∀ (l : List Value) (j : Nat) (arr : Array Value), k * s + j + l.length ≤ arr.size →
        ((l.zipIdx j).foldl (fun (cs : Array Value) (x : Value × Nat) => cs.setIfInBounds (k * s + x.2) x.1) arr).toList = arr.toList.take (k * s + j) ++ l ++ arr.toList.drop (k * s + j + l.length) := by
      intro l
      induction l with
      | nil => intro k arr _; simp
      | cons x l ihl =>
        intro j arr hk
        simp only [List.length_cons] at hk
        rw [List.zipIdx_cons, List.foldl_cons, ihl (j + 1) _ (by simp; omega)]
        simp only [Array.toList_setIfInBounds, List.length_cons]
        have e := list_seg_step arr.toList (k * s + j) x l (by simp; omega)
        simpa [Nat.add_assoc] using e
    have h1 := key u.cells.toList 0 cur.toArray (by simp [hs]; omega)
    simp only [Nat.add_zero] at h1
    have h2 : u.cells.zipIdx.foldl (fun (cs : Array Value) (x : Value × Nat) => cs.setIfInBounds (k * s + x.2) x.1) cur.toArray = (cur.take (k * s) ++ u.cells.toList ++ cur.drop (k * s + s)).toArray := by
      apply Array.ext'
      rw [← Array.foldl_toList, Array.toList_zipIdx, h1]
      simp [hs]
    have e2 : (fun (cs : Array Value) (x : Value × Nat) => match x with | (c, j) => cs.setIfInBounds (k * s + j) c) = (fun (cs : Array Value) (x : Value × Nat) => cs.setIfInBounds (k * s + x.2) x.1) := rfl
    rw [e2, h2, fill_row us (k + 1) _ (fun x hx => hu x (by simp [hx])) (by
      have : (k + 1 + us.length) * s = k * s + s + us.length * s := by rw [Nat.add_mul, Nat.add_mul]; omega
      have : (k + (us.length + 1)) * s = k * s + s + us.length * s := by rw [Nat.add_mul, Nat.add_mul]; omega
      simp [hs]; omega)]
    have e3 : (k + 1) * s = k * s + s := by rw [Nat.add_mul]; omega
    have e4 : (k + 1 + us.length) * s = k * s + s + us.length * s := by rw [Nat.add_mul, Nat.add_mul]; omega
    have e5 : (k + (us.length + 1)) * s = k * s + s + us.length * s := by rw [Nat.add_mul, Nat.add_mul]; omega
    have hlen : (cur.take (k * s) ++ u.cells.toList).length = k * s + s := by simp [hs]; omega
    congr 2
    rw [e3, List.length_cons, e4, e5]
    rw [List.take_left' hlen, List.drop_append, hlen, List.drop_of_length_le (by rw [hlen]; omega), List.drop_drop]
    simp

theorem flat_len {els : List (List Cell)} {e : Nat} (he : ∀ l ∈ els, l.length = e) : els.flatten.length = els.length * e := by
  induction els with
  | nil => simp
  | cons l els ih =>
    have := ih (fun x hx => he x (by simp [hx]))
    have h1 := he l (by simp)
    simp only [List.flatten_cons, List.length_append, List.length_cons, Nat.add_mul]
    omega
theorem flat_get {els : List (List Cell)} {e i j : Nat} {l : List Cell} (he : ∀ l ∈ els, l.length = e) (hl : els[i]? = some l) (hj : j < e) : els.flatten[i * e + j]? = l[j]? := by
  induction els generalizing i with
  | nil => simp at hl
  | cons x els ih =>
    have h1 := he x (by simp)
    cases i with
    | zero =>
      simp at hl
      subst hl
      simp only [List.flatten_cons, Nat.zero_mul, Nat.zero_add]
      rw [List.getElem?_append_left (by omega)]
    | succ i =>
      simp at hl
      simp only [List.flatten_cons]
      rw [Nat.add_mul, List.getElem?_append_right (by omega), h1]
      rw [show i * e + 1 * e + j - e = i * e + j by omega]
      exact ih (fun x hx => he x (by simp [hx])) hl
theorem RepC.row {els : List (List Cell)} {e b o c : Nat} {row : List Value} (he : ∀ l ∈ els, l.length = e) (h0 : 0 < e) (hc : els.length ≤ c) (hx : c ≤ maxLen)
    (hr : RepL S w els.flatten row) (hl : Lies w b o row) (hS : ∀ j, j < row.length → S b (o + j)) : RepC S w (.slice .no els) (.slice (some ⟨b, o, none⟩) els.length c) := by
  have hlen := flat_len he
  have hrl := hr.length
  have key : ∀ (i : Nat) l, els[i]? = some l → ∀ j, j < e → i * e + j < row.length := by
    intro i l hl j hj
    have hi := getElem_pos hl
    have : (i + 1) * e ≤ els.length * e := Nat.mul_le_mul_right _ hi
    rw [Nat.add_mul] at this
    omega
  refine .slice els _ c e b o (fun i j => row.getD (i * e + j) undef) hc hx he h0 (fun _ => rfl) (fun i l hl' j hj => ?_) (fun i l hl' j x hxj => ?_)
  · have hk := key i l hl' j hj
    refine ⟨by rw [Nat.add_assoc]; exact hS _ hk, ?_⟩
    rw [Nat.add_assoc]
    exact hl _ _ (by simp [List.getD, hk])
  · have hj : j < e := by rw [← he l (List.mem_of_getElem? hl')]; exact getElem_pos hxj
    have hk := key i l hl' j hj
    obtain ⟨v, hv, hcv⟩ := hr.get ((flat_get he hl' hj).trans hxj)
    simpa [List.getD, hv] using hcv
theorem RepC.unrow {own : Own} {els : List (List Cell)} {v : Value} (h : RepC S w (.slice own els) v) (hne : els ≠ []) :
    ∃ b o c e row, v = .slice (some ⟨b, o, none⟩) els.length c ∧ els.length ≤ c ∧ c ≤ maxLen ∧ 0 < e ∧ (∀ l ∈ els, l.length = e) ∧ RepL S w els.flatten row ∧ Lies w b o row ∧ ∀ j, j < row.length → S b (o + j) := by
  cases h with
  | nil a => exact absurd rfl hne
  | slice _ a c e b o m hc hx he h0 ha hm hr =>
    have hlen := flat_len he
    have hat : ∀ q, q < els.length * e → ∃ l, els[q / e]? = some l ∧ q % e < e ∧ q / e * e + q % e = q := by
      intro q hq
      have h1 : q / e < els.length := (Nat.div_lt_iff_lt_mul h0).2 hq
      exact ⟨els[q / e], by simp [h1], Nat.mod_lt _ h0, by rw [Nat.mul_comm]; exact Nat.div_add_mod q e⟩
    refine ⟨b, o, c, e, (List.range (els.length * e)).map (fun q => m (q / e) (q % e)), by rw [ha hne], hc, hx, h0, he, All2.of_get (by simp [hlen]) fun i x y hx' hy => ?_, fun j u hu => ?_, fun j hj => ?_⟩
    · have hi : i < els.length * e := by rw [← hlen]; exact getElem_pos hx'
      simp [hi] at hy
      subst hy
      obtain ⟨l, hl, h1, h2⟩ := hat i hi
      rw [← h2, flat_get he hl h1] at hx'
      exact hr _ l hl _ _ hx'
    · have hj := getElem_pos hu
      simp at hj
      simp [hj] at hu
      subst hu
      obtain ⟨l, hl, h1, h2⟩ := hat j hj
      have := (hm _ l hl _ h1).2
      rw [Nat.add_assoc, h2] at this
      exact this
    · simp at hj
      obtain ⟨l, hl, h1, h2⟩ := hat j hj
      have := (hm _ l hl _ h1).1
      rwa [Nat.add_assoc, h2] at this
theorem RepL.ones {cs : List Cell} {vs : List Value} (h : RepL S w cs vs) : ∀ v ∈ vs, v.oneCell' = true := by
  induction h with
  | nil => simp
  | cons h _ ih => intro v hv; simp at hv; rcases hv with rfl | hv; exact h.one; exact ih v hv
/-- a new row that slot d owns -/
theorem SimX.newRow (h : SimX B w0 S0 S g bm st a w) (hg : Grow S S' w w') (d : Nat) {els : List (List Cell)} {e c : Nat} {arr : Array Value} {T : TypeId}
    (hr : RepC S' w' (.slice .no els) (.slice (some ⟨w.heap.size, 0, none⟩) els.length c)) (hb : w'.heap[w.heap.size]? = some (.cells arr T (0, 0))) (hc : c * e ≤ arr.size) (hf : ∀ j, els.length * e ≤ j → ¬ S' w.heap.size j) (hes : ∀ l ∈ els, l.length = e) :
    Sim B w0 S0 ⟨st.env.set d (.one (.slice (.tip e) els)), st.boxes⟩ (a.put (some d) (.slice (some ⟨w.heap.size, 0, none⟩) els.length c)) w' := by
  have h1 := h.regrant (.box st.boxes.length) (fun b => if b = w.heap.size then some (.slot d) else g b) (fun b x hb hx _ => by rw [if_neg (by omega)]; exact hx) (fun _ _ _ => .inl (by simp))
    (fun id b hb => by have := getElem_pos hb; simp; omega) (fun _ _ _ _ _ _ => .inl (by simp))
  refine ⟨S', _, bm, (h1.grow hg).put d ⟨hr, .inr ⟨w.heap.size, 0, els.length, c, arr, T, rfl, by simp, h.base, hb, by simpa using hc, fun j hj => hf j (by simpa using hj)⟩, hes⟩⟩

end
end Go.Ab
end
section
namespace Go.Ab
open Go.RowKit
set_option linter.unusedVariables false
section
variable {P : Program} {tt : TT} {T : Tab} {B : Nat} {w0 : World} {S0 S S' : Nat → Nat → Prop} {g g' : Nat → Option Occ} {bm bm' : Nat → Option Nat} {st st' : ASt} {a : Act} {w w' : World} {Q : Exit → Act → World → Prop} {o : Oper}

theorem mapM_cells : ∀ {ps : List (Nat × PV)} {vs : List (Nat × Value)} {els : List (List Cell)},
    All2 (fun (p : Nat × PV) (v : Nat × Value) => p.1 = v.1 ∧ ∀ cs, p.2.cells = some cs → RepL S w cs v.2.cells.toList) ps vs → ps.mapM (fun p => p.2.cells) = some els →
    RepL S w els.flatten (vs.map (·.2.cells.toList)).flatten ∧ els.length = ps.length ∧ (∀ s, (∀ l ∈ els, l.length = s) → ∀ v ∈ vs.map (·.2), v.cells.size = s) := by
  intro ps
  induction ps with
  | nil =>
    intro vs els h hm
    cases h
    simp at hm
    subst hm
    exact ⟨.nil, rfl, by simp⟩
  | cons p ps ih =>
    intro vs els h hm
    cases h with
    | @cons _ v _ vs h1 h2 =>
      simp only [List.mapM_cons] at hm
      cases hc : p.2.cells with
      | none => simp [hc] at hm
      | some cs =>
        cases hr : ps.mapM (fun p => p.2.cells) with
        | none => simp [hc, hr] at hm
        | some rest =>
          simp [hc, hr] at hm
          subst hm
          obtain ⟨i1, i2, i3⟩ := ih h2 hr
          have hcs := h1.2 cs hc
          refine ⟨by simpa using All2.append hcs i1, by simp [i2], fun s hs v' hv' => ?_⟩
          simp only [List.map_cons, List.mem_cons] at hv'
          rcases hv' with rfl | hv'
          · rw [← Array.length_toList, ← hcs.length]; exact hs cs (by simp)
          · exact i3 s (fun l hl => hs l (by simp [hl])) v' hv'
theorem zip_range {vs : List (Nat × Value)} {n : Nat} (h : vs.map (·.1) = List.range n) : vs = ((vs.map (·.2)).zipIdx).map fun x => (x.2, x.1) := by
  apply List.ext_getElem?
  intro i
  have hi := congrArg (fun l => l[i]?) h
  simp only [List.getElem?_map] at hi ⊢
  cases hv : vs[i]? with
  | none => simp [hv]
  | some v =>
    have hlt : i < n := by
      rw [hv] at hi
      rcases Nat.lt_or_ge i n with h' | h'
      · exact h'
      · simp [Nat.not_lt.2 h'] at hi
    rw [hv] at hi
    simp [hlt] at hi
    simp [hv]
    rw [← hi]
theorem fst_eq {ps : List (Nat × PV)} {vs : List (Nat × Value)} (h : All2 (fun (p : Nat × PV) (v : Nat × Value) => p.1 = v.1 ∧ ∀ cs, p.2.cells = some cs → RepL S w cs v.2.cells.toList) ps vs) : vs.map (·.1) = ps.map (·.1) := by
  induction h with
  | nil => rfl
  | cons h _ ih => simp [ih, h.1]

theorem grow_row (hl : ∀ b o, S b o → b < w.heap.size) (hg : Grow S S w w') (n : Nat) (hlt : w.heap.size < w'.heap.size) : Grow S (fun b j => S b j ∨ (b = w.heap.size ∧ j < n)) w w' :=
  ⟨hg.below, fun _ _ h => .inl h, fun b o h => by rcases h with h | ⟨rfl, _⟩; exact .inl h; exact .inr (Nat.le_refl _), fun b o h => by rcases h with h | ⟨rfl, _⟩; exact hg.slt _ _ h; exact hlt⟩

theorem buildSlice_ok (htt : ∀ t i, tt t = some i → tinfo P t = some i) (h : SimX B w0 S0 S g bm st a w) {t : TypeId} {len : Nat} {parts : Array (Nat × Operand)} {p : PV}
    (ho : o.op = .buildSlice t len parts) (hu : makeOp tt T st.get o.op = some p) : o.wp P a w (Sim B w0 S0 (Upd.app ⟨putD o.dst p, none⟩ st)) Q := by
  rw [ho] at hu
  simp only [makeOp] at hu
  split at hu
  · rename_i i ps hi hps
    split at hu
    · rename_i e hk
      split at hu
      · rename_i j hj
        split at hu
        · rename_i hz
          obtain ⟨rfl, rfl⟩ := hz
          simp at hu
          subst hu
          have hparts := rdParts_ok h hps
          have hpn : parts = #[] := by
            have := hparts.length
            simp at this
            exact Array.eq_empty_of_size_eq_zero this.symm
          subst hpn
          have hut := (tinfo_spec (htt _ _ hi)).slice hk
          have hje := tinfo_spec (htt _ _ hj)
          have hrun : (execOp a.eval o).run P w = .ok (.value (.slice (some ⟨w.heap.size, 0, none⟩) 0 0)) (w.alloc (.cells #[] e)) := by
            simp [execOp, ho, Instr.buildSlice, run_underlying hut, hje.run_size, Instr.fill, newRow]
            congr 2
            exact Array.eq_empty_of_size_eq_zero (by simp)
          have hg := grow_alloc h.slt (.cells #[] e)
          exact wp_value hrun ⟨S, g, bm, (h.grow hg).putDst o.dst (.base (.one (.nil _)))⟩
        split at hu
        · rename_i hcond
          obtain ⟨hlen, hsz, hmax, hzl, hrange⟩ := hcond
          split at hu
          · rename_i els hels
            split at hu <;> simp at hu
            rename_i hall
            subst hu
            have hparts := rdParts_ok h hps
            obtain ⟨r1, r2, r3⟩ := mapM_cells hparts hels
            have hes : ∀ l ∈ els, l.length = j.size := by simpa using hall
            have hut := (tinfo_spec (htt _ _ hi)).slice hk
            have hje := tinfo_spec (htt _ _ hj)
            obtain ⟨z, hz, hzc⟩ := hje.zero w
            have hzs : z.cells.size = j.size := by rw [← Array.length_toList, hzc]; simpa using hzl
            have hpl : ps.length = len := by have := congrArg List.length hrange; simpa using this
            have hel : els.length = len := r2.trans hpl
            let vs := parts.toList.map fun x => (x.1, a.eval x.2)
            have hvr : vs.map (·.1) = List.range len := (fst_eq hparts).trans hrange
            have hvl : vs.length = len := by have := congrArg List.length hvr; simpa using this
            have hfill := fill_row (s := j.size) (vs.map (·.2)) 0 ((List.range (len * j.size)).map (fun q => z.cells[q % z.cells.size]!)) (r3 _ hes) (by simp [hvl])
            rw [← zip_range hvr] at hfill
            have hz0 : ¬ len * j.size = 0 := by have := Nat.mul_pos hlen hsz; omega
            have hm24 : ¬ 16777216 < len * j.size := by omega
            simp only [Nat.zero_mul, List.take_zero, List.nil_append, Nat.zero_add, List.length_map, hvl] at hfill
            rw [List.drop_of_length_le (by simp)] at hfill
            have hrow : ((vs.map (·.2)).map (·.cells.toList)).flatten = (vs.map (·.2.cells.toList)).flatten := by rw [List.map_map]; rfl
            rw [List.append_nil, hrow] at hfill
            generalize hrw : (vs.map (·.2.cells.toList)).flatten = row at hfill
            have r1' : RepL S w els.flatten row := by rw [← hrw]; exact r1
            have hrun : (execOp a.eval o).run P w = .ok (.value (.slice (some ⟨w.heap.size, 0, none⟩) len len)) (w.alloc (.cells row.toArray e)) := by
              have hf' : Instr.fill (fun i => some (i * j.size, j.size)) ((Array.range (len * j.size)).map (z.cells[· % z.cells.size]!)) (parts.map fun x => (x.1, a.eval x.2)).toList = some row.toArray := by
                rw [← hfill]
                congr 1
                · apply Array.ext'; simp
                · simp [vs]
              have hf'' : Instr.fill (fun i => some (i * j.size, j.size)) ((Array.range (len * j.size)).map (fun q => z.cells[q % j.size]!)) (parts.map fun x => (x.1, a.eval x.2)).toList = some row.toArray := by
                rw [← hf', hzs]
              simp only [execOp, ho, Instr.buildSlice, Sem.run_bind, run_underlying hut, Result.andThen_ok, hje.run_size, hz, Sem.run_ite]
              simp only [gt_iff_lt, hm24, hz0, if_false]
              simp [hzs]
              simp at hf''
              rw [hf'']
              simp [newRow]
            have hlt : w.heap.size < (w.alloc (.cells row.toArray e)).heap.size := by simp
            have hg := grow_row h.slt (grow_alloc h.slt (.cells row.toArray e)) (len * j.size) hlt
            have hrl : row.length = len * j.size := by rw [← r1'.length, flat_len hes, hel]
            refine wp_value hrun ?_
            cases hd : o.dst with
            | none => exact ⟨_, g, bm, h.grow hg⟩
            | some d =>
              have hblk : (w.alloc (.cells row.toArray e)).heap[w.heap.size]? = some (.cells row.toArray e (0, 0)) := heap_alloc_new w _
              have hrep : RepC (fun b q => S b q ∨ (b = w.heap.size ∧ q < len * j.size)) (w.alloc (.cells row.toArray e)) (.slice .no els) (.slice (some ⟨w.heap.size, 0, none⟩) els.length len) := by
                refine RepC.row hes hsz (Nat.le_of_eq hel) (by unfold maxLen; have : len ≤ len * j.size := Nat.le_mul_of_pos_right _ hsz; omega) (All2.mono r1' fun _ _ hc => hc.grow h.slt hg) (fun q u hu => ?_) (fun q hq => .inr ⟨rfl, by omega⟩)
                simp only [World.cell?, hblk]
                simpa using hu
              have := h.newRow hg d (e := j.size) hrep hblk (by simp [hrl]) (fun q hq hs => by
                rcases hs with hs | ⟨_, hs⟩
                · exact Nat.lt_irrefl _ (h.slt _ _ hs)
                · rw [hel] at hq; omega) hes
              rw [hel] at this
              exact this
          · simp at hu
        · simp at hu
      · simp at hu
    · simp at hu
  · simp at hu
end
end Go.Ab
end
section
namespace Go.Ab
open Go.RowKit
set_option linter.unusedVariables false
section
variable {P : Program} {tt : TT} {T : Tab} {B : Nat} {w0 : World} {S0 S S' : Nat → Nat → Prop} {g g' : Nat → Option Occ} {bm bm' : Nat → Option Nat} {st st' : ASt} {a : Act} {w w' : World} {Q : Exit → Act → World → Prop} {o : Oper}

theorem run_append_in (w : World) (t ty e : TypeId) (i : TypeInfo) (ht : P.underlying t = some (.slice e)) (hi : P.info? e = some i)
    (g off sLen sCap : Nat) (cur : Array Value) (T : TypeId) (hg : w.heap[g]? = some (.cells cur T (0, 0)))
    (a : Addr) (m c : Nat) (news : List Value) (hl : news.length = m * i.size) (hnews : ∀ (j : Nat) u, news[j]? = some u → w.cell? (a.add j) = some u) (h1 : ∀ u ∈ news, u.oneCell' = true)
    (hroom : sLen + m ≤ sCap) (hfit : off + sLen * i.size + news.length ≤ cur.size) :
    (Builtin.append_ #[t, t] ty #[.slice (some ⟨g, off, none⟩) sLen sCap, .slice (some a) m c]).run P w =
      .ok (.slice (some ⟨g, off, none⟩) (sLen + m) sCap) (w.setRow g (cur.toList.take (off + sLen * i.size) ++ news ++ cur.toList.drop (off + sLen * i.size + news.length)).toArray) := by
  have hf := run_firstCells_some (P := P) w i.size m a m c news hl hnews
  have hst := run_storeCells_at P g (off + sLen * i.size) T news 0 cur w hg (by simpa using hfit) h1
  simp only [Nat.add_zero] at hst
  simp [Builtin.append_, run_underlying ht, sizeOf, typeInfo, hi, Builtin.lenOf, hroom, hf, Addr.add_lit, hst]
theorem run_append_zero (w : World) (t ty e : TypeId) (i : TypeInfo) (ht : P.underlying t = some (.slice e)) (hi : P.info? e = some i) (b x : Option Addr) (n c c' : Nat) (hc : n ≤ c) :
    (Builtin.append_ #[t, t] ty #[.slice b n c, .slice x 0 c']).run P w = .ok (.slice b n c) w := by
  have hf : ∀ y : Option Addr, (Builtin.firstCells i.size 0 (.slice y 0 c')).run P w = .ok #[] w := by
    intro y
    cases y with
    | none => simp [Builtin.firstCells]
    | some y => simp [Builtin.firstCells, loadCells, loadCellsFrom]
  cases b <;> simp [Builtin.append_, run_underlying ht, sizeOf, typeInfo, hi, Builtin.lenOf, hc, hf, storeCells]
theorem run_append_new0 (w : World) (t ty e : TypeId) (i : TypeInfo) (z : Value) (ht : P.underlying t = some (.slice e)) (hi : P.info? e = some i) (hz : i.zero = some z)
    (x : Option Addr) (a : Addr) (n c : Nat) (news : List Value) (hl : news.length = n * i.size) (hnews : ∀ (j : Nat) v, news[j]? = some v → w.cell? (a.add j) = some v)
    (h0 : 0 < n) (h63 : (n : Int) ≤ 9223372036854775807) (h48 : n * i.bytes ≤ 281474976710656) :
    (Builtin.append_ #[t, t] ty #[.slice x 0 0, .slice (some a) n c]).run P w =
      .ok (.slice (some ⟨w.heap.size, 0, none⟩) n (grownCap w n 0 e)) (w.drew.alloc (.cells (news.toArray ++ Builtin.zeroCells z.cells (grownCap w n 0 e - n)) e)) := by
  cases x with
  | none => exact run_append_nil w t ty e i z ht hi hz a n c news hl hnews h0 h63 h48
  | some b =>
    have := run_append_grow (P := P) w t ty e i z ht hi hz b 0 0 [] (by simp) (by simp) a n c news hl hnews (by omega) (by simpa using h63) (by rw [Nat.zero_add, nextslicecap_zero h0]; exact h48)
    simpa using this

theorem grown_le (w : World) (need old : Nat) (e : TypeId) : need ≤ grownCap w need old e := by
  unfold grownCap Question.cut
  exact Nat.le_add_right _ _
/-- append makes a new row -/
theorem append_new {j : TI} {e : TypeId} {els : List (List Cell)} {row : List Value} {z : Array Value} {d : Option Nat} {old : Nat} (h : SimX B w0 S0 S g bm st a w) (hes : ∀ l ∈ els, l.length = j.size) (hsz : 0 < j.size) (hm : els.length ≤ maxLen)
    (hr : RepL S w els.flatten row) (hz : z.size = j.size) :
    Sim B w0 S0 ⟨setAll st.env (putD d (.one (.slice (.tip j.size) els))), st.boxes⟩ (a.put d (.slice (some ⟨w.heap.size, 0, none⟩) els.length (grownCap w els.length old e)))
      (w.drew.alloc (.cells (row.toArray ++ Builtin.zeroCells z (grownCap w els.length old e - els.length)) e)) := by
  generalize hw' : w.drew.alloc (.cells (row.toArray ++ Builtin.zeroCells z (grownCap w els.length old e - els.length)) e) = w'
  have hsize : w'.heap.size = w.heap.size + 1 := by rw [← hw']; simp
  have hblk : w'.heap[w.heap.size]? = some (.cells (row.toArray ++ Builtin.zeroCells z (grownCap w els.length old e - els.length)) e (0, 0)) := by rw [← hw']; exact heap_alloc_new w.drew _
  have hg0 : Grow S S w w' := by
    rw [← hw']
    have := grow_alloc (S := S) (w := w.drew) (fun b o hs => h.slt b o hs) (.cells (row.toArray ++ Builtin.zeroCells z (grownCap w els.length old e - els.length)) e)
    exact ⟨⟨this.below.os, this.below.tape, this.below.output, this.below.size, this.below.block⟩, this.mono, this.fresh, this.slt⟩
  have hg := grow_row h.slt hg0 (els.length * j.size) (by omega)
  have hrl : row.length = els.length * j.size := by rw [← hr.length, flat_len hes]
  have hcap := grown_le w els.length old e
  have hcm : grownCap w els.length old e ≤ maxLen := grownCap_le_maxLen w _ _ _ hm
  cases d with
  | none => exact ⟨_, g, bm, h.grow hg⟩
  | some d =>
    have hrep : RepC (fun b q => S b q ∨ (b = w.heap.size ∧ q < els.length * j.size)) w' (.slice .no els) (.slice (some ⟨w.heap.size, 0, none⟩) els.length (grownCap w els.length old e)) := by
      refine RepC.row hes hsz hcap hcm (All2.mono hr fun _ _ hc => hc.grow h.slt hg) (fun q u hu => ?_) (fun q hq => .inr ⟨rfl, by omega⟩)
      have hq := getElem_pos hu
      simp only [World.cell?, hblk]
      simp [Array.getElem?_append, hq]
      simpa [hq] using hu
    refine h.newRow hg d (e := j.size) hrep hblk ?_ (fun q hq hs => ?_) hes
    · simp only [Array.size_append, List.size_toArray, size_zeroCells, hz, hrl]
      rw [← Nat.add_mul, Nat.add_sub_cancel' hcap]
      exact Nat.le_refl _
    · rcases hs with hs | ⟨_, hs⟩
      · exact Nat.lt_irrefl _ (h.slt _ _ hs)
      · omega

theorem RepC.len {own : Own} {els : List (List Cell)} {v : Value} (h : RepC S w (.slice own els) v) : ∃ x c, v = .slice x els.length c ∧ els.length ≤ c ∧ c ≤ maxLen := by
  cases h with
  | nil a => exact ⟨_, _, rfl, Nat.le_refl _, Nat.zero_le _⟩
  | slice _ a c e b o m hc hx he h0 ha hm hr => exact ⟨_, _, rfl, hc, hx⟩
theorem RepC.nil_no {own : Own} {v : Value} (h : RepC S w (.slice own []) v) : ∃ x c, v = .slice x 0 c := by
  cases h with
  | nil a => exact ⟨_, _, rfl⟩
  | slice _ a c e b o m hc hx he h0 ha hm hr => exact ⟨_, _, rfl⟩
theorem RepC.no_empty (x : Option Addr) {e : Nat} (he : 0 < e) : RepC S w (.slice .no []) (.slice x 0 0) :=
  .slice [] x 0 e 0 0 (fun _ _ => undef) (Nat.le_refl _) (Nat.zero_le _) (by simp) he (by simp) (by simp) (by simp)

theorem append_in {j : TI} {els els' : List (List Cell)} {row' : List Value} {s d : Nat} {b off c : Nat} {arr : Array Value} {T' : TypeId} (h : SimX B w0 S0 S g bm st a w)
    (hr : RepC S w (.slice .no els) (.slice (some ⟨b, off, none⟩) els.length c)) (hes : els ≠ [] → ∀ l ∈ els, l.length = j.size) (hes' : ∀ l ∈ els', l.length = j.size) (hsz : 0 < j.size)
    (hgb : g b = some (.slot s)) (hB : B ≤ b) (hblk : w.heap[b]? = some (.cells arr T' (0, 0))) (hcap : off + c * j.size ≤ arr.size) (hfree : ∀ q, off + els.length * j.size ≤ q → ¬ S b q)
    (hr' : RepL S w els'.flatten row') (hfit : els.length + els'.length ≤ c) (hcm : c ≤ maxLen) :
    Sim B w0 S0 ⟨(st.env.set s (st.get s).un).set d (.one (.slice (.tip j.size) (els ++ els'))), st.boxes⟩ (a.put (some d) (.slice (some ⟨b, off, none⟩) (els.length + els'.length) c))
      (w.setRow b (arr.toList.take (off + els.length * j.size) ++ row' ++ arr.toList.drop (off + els.length * j.size + row'.length)).toArray) := by
  have hrl : row'.length = els'.length * j.size := by rw [← hr'.length, flat_len hes']
  have hle : off + els.length * j.size + row'.length ≤ arr.size := by
    have : (els.length + els'.length) * j.size ≤ c * j.size := Nat.mul_le_mul_right _ hfit
    rw [Nat.add_mul] at this
    omega
  generalize hw' : w.setRow b (arr.toList.take (off + els.length * j.size) ++ row' ++ arr.toList.drop (off + els.length * j.size + row'.length)).toArray = w'
  have hblk' : w'.heap[b]? = some (.cells (arr.toList.take (off + els.length * j.size) ++ row' ++ arr.toList.drop (off + els.length * j.size + row'.length)).toArray T' (0, 0)) := by
    rw [← hw']; exact setRow_heap w b arr _ T' _ hblk
  have hold : ∀ q, q < off + els.length * j.size → w'.cell? ⟨b, q, none⟩ = w.cell? ⟨b, q, none⟩ := by
    intro q hq
    simp only [World.cell?, hblk', hblk]
    have : q < arr.size := by omega
    simp [List.getElem?_append, this, hq]
    omega
  have hnew : ∀ (q : Nat) u, row'[q]? = some u → w'.cell? ⟨b, off + els.length * j.size + q, none⟩ = some u := by
    intro q u hu
    have hq := getElem_pos hu
    simp only [World.cell?, hblk']
    have hm : min (off + els.length * j.size) arr.size = off + els.length * j.size := by omega
    simp [List.getElem?_append, hm, hq]
    simpa [hq] using hu
  let S1 : Nat → Nat → Prop := fun b' q => S b' q ∨ (b' = b ∧ off + els.length * j.size ≤ q ∧ q < off + els.length * j.size + row'.length)
  have hwr : Wr S S1 w w' b := by
    refine ⟨by rw [← hw']; rfl, by rw [← hw']; rfl, by rw [← hw']; rfl, by rw [← hw']; simp [World.setRow], fun b' hb' => by rw [← hw']; exact setRow_other w b b' _ hb', fun _ _ h => .inl h, fun b' q h => h.imp id (·.1), fun q hq => ?_⟩
    apply hold
    rcases Nat.lt_or_ge q (off + els.length * j.size) with h' | h'
    · exact h'
    · exact absurd hq (hfree q h')
  have h1 := (h.untag s).write_slot (S' := S1) hgb (fun p hp => by
    rcases set_notTip hp with h' | h'
    · exact absurd rfl h'
    · exact h') hB (heap_lt hblk) hwr
  have h2 := h1.regrant (.slot s) (give g (.slot s) (.slot d)) (fun b x _ hx hne => give_keep hx hne) (fun i p hp => set_notTip hp) (fun id b _ => by simp) (fun id b o c _ _ => .inl (by simp))
  have hes2 : ∀ l ∈ els ++ els', l.length = j.size := by
    intro l hl
    rcases List.mem_append.1 hl with hl | hl
    · exact hes (by rintro rfl; simp at hl) l hl
    · exact hes' l hl
  have hrow : ∃ row : List Value, RepL S w els.flatten row ∧ Lies w b off row ∧ (∀ q, q < row.length → S b (off + q)) ∧ row.length = els.length * j.size := by
    rcases Classical.em (els = []) with he | he
    · subst he
      exact ⟨[], .nil, by intro q u hu; simp at hu, by simp, by simp⟩
    · obtain ⟨b1, o1, c1, e1, row, hv, _, _, _, hl, r1, r2, r3⟩ := hr.unrow he
      injection hv with hv _ hv3
      injection hv with hv
      injection hv with hv1 hv2
      subst hv1 hv2
      have he1 := flat_len hl
      have : e1 = j.size := by
        obtain ⟨l, hl'⟩ := List.exists_mem_of_ne_nil els he
        rw [← hl l hl', hes he l hl']
      subst this
      exact ⟨row, r1, r2, r3, by rw [← r1.length, he1]⟩
  obtain ⟨row, q1, q2, q3, q4⟩ := hrow
  refine ⟨S1, _, bm, h2.put d ⟨?_, .inr ⟨b, off, els.length + els'.length, c, _, T', rfl, by simp [give, hgb], hB, hblk', ?_, ?_⟩, hes2⟩⟩
  · have := RepC.row (S := S1) (w := w') (b := b) (o := off) (row := row ++ row') hes2 hsz (c := c) (by simpa using hfit) hcm
      (by rw [List.flatten_append]; exact All2.append (All2.mono q1 fun _ _ hc => hc.mono hwr.mono hwr.cell) (All2.mono hr' fun _ _ hc => hc.mono hwr.mono hwr.cell))
      (fun q u hu => by
        rw [List.getElem?_append] at hu
        split at hu
        · rename_i hq
          rw [hold _ (by omega)]
          exact q2 q u hu
        · rename_i hq
          have := hnew _ u hu
          rw [show off + els.length * j.size + (q - row.length) = off + q by omega] at this
          exact this)
      (fun q hq => by
        rw [List.length_append] at hq
        rcases Nat.lt_or_ge q row.length with h' | h'
        · exact .inl (q3 q h')
        · exact .inr ⟨rfl, by omega, by omega⟩)
    simpa using this
  · simp
    omega
  · intro q hq hs
    rw [Nat.add_mul] at hq
    rcases hs with hs | ⟨_, _, hs⟩
    · exact hfree q (by omega) hs
    · omega

theorem append_ok (htt : ∀ t i, tt t = some i → tinfo P t = some i) (h : SimX B w0 S0 S g bm st a w) {ops : List Oper} {t : TypeId} {s : Nat} {y : Operand} {u : Upd}
    (ho : o.op = .call { callee := .builtin .append, args := #[.tmp s, y], argTypes := #[t, t] }) (hu : eff tt T ops o st.get st.boxes = some u) : o.wp P a w (Sim B w0 S0 (u.app st)) Q := by
  unfold eff at hu
  rw [ho] at hu
  simp only at hu
  split at hu
  · rename_i i q hi hy
    split at hu
    · rename_i e hk
      split at hu
      · rename_i j hj
        split at hu
        · rename_i hcond
          obtain ⟨_, hsz, hzl⟩ := hcond
          split at hu <;> simp at hu
          rename_i p d hp hd
          subst hu
          have hut := (tinfo_spec (htt _ _ hi)).slice hk
          obtain ⟨info, dd, z, k1, k2, k3, k4, k5, k6, k7, _⟩ := (tinfo_spec (htt _ _ hj)).ex
          have hzs : z.cells.size = j.size := by rw [← Array.length_toList, zcs_vals k6]; simpa using hzl
          have hx := h.slot s
          have hev : a.eval (.tmp s) = a.tmps.getD s undef := rfl
          have hex : ∀ {v w'}, (Builtin.append_ #[t, t] o.type #[a.eval (.tmp s), a.eval y]).run P w = .ok v w' → (execOp a.eval o).run P w = .ok (.value v) w' := by
            intro v w' hv
            simp only [execOp, ho, resolve, Sem.run_bind, Sem.run_pure, Result.andThen_ok, invoke, builtin]
            simp [hv]
          rw [hev] at hex
          show o.wp P a w (Sim B w0 S0 ⟨(st.env.set s (st.get s).un).set d p, st.boxes⟩) Q
          have hun := h.untag s
          unfold appendC at hp
          split at hp
          · rename_i e1 els own' els' hgs
            split at hp <;> simp at hp
            rename_i hc2
            obtain ⟨rfl, hes', hby, hml⟩ := hc2
            subst hp
            rw [hgs] at hx
            obtain ⟨hr1, htip, hes⟩ := hx
            have hr2 := h.evalC hy
            rcases Classical.em (els' = []) with he' | he'
            · subst he'
              obtain ⟨x2, c2, hv2⟩ := hr2.nil_no
              have hv1 : ∃ b1 n1 c1, a.tmps.getD s undef = .slice b1 n1 c1 ∧ n1 ≤ c1 := by
                generalize a.tmps.getD s undef = v1 at hr1
                cases hr1 with
                | slice _ a1 c e b o m hc hx he h0 ha hm hr => exact ⟨_, _, _, rfl, hc⟩
              obtain ⟨b1, n1, c1, hv1, hn1⟩ := hv1
              refine wp_value (hex (v := a.tmps.getD s undef) (w' := w) ?_) ?_
              · rw [hv1, hv2]
                exact run_append_zero w t _ e info hut k1 _ _ _ _ _ hn1
              · simp only [List.append_nil]
                rw [hd]
                have := h.moveTo s d
                rw [hgs] at this ⊢
                exact ⟨S, _, bm, this⟩
            · obtain ⟨b2, o2, c2, e2, row2, hv2, hl2, hm2, he2, hlen2, r2, l2, s2⟩ := hr2.unrow he'
              have hpos : 0 < els'.length := List.length_pos_iff.2 he'
              have hrl2 : row2.length = els'.length * info.size := by rw [← r2.length, flat_len hes', k4]
              have hnews : ∀ (q : Nat) u, row2[q]? = some u → w.cell? ((⟨b2, o2, none⟩ : Addr).add q) = some u := fun q u hu => by rw [Addr.add_lit]; exact l2 q u hu
              rcases htip with ⟨a1, hv1⟩ | ⟨b, off, n, c, arr, T', hv1, hgb, hB, hblk, hcap, hfree⟩
              · have hels : els = [] := by
                  obtain ⟨x, c, hv, _, _⟩ := hr1.len
                  rw [hv1] at hv
                  injection hv with _ hv _
                  exact List.length_eq_zero_iff.1 hv.symm
                subst hels
                simp only [List.nil_append, List.length_nil, Nat.zero_add] at hby hml ⊢
                refine wp_value (hex ?_) (by rw [hd]; exact append_new (e := e) (z := z.cells) (old := 0) (d := some d) hun hes' hsz hml r2 hzs)
                rw [hv1, hv2]
                exact run_append_new0 w t _ e info z hut k1 k3 a1 ⟨b2, o2, none⟩ _ c2 row2 hrl2 hnews hpos (by unfold maxLen at hml; omega) (by rw [k7]; omega)
              · have hn : n = els.length ∧ els.length ≤ c ∧ c ≤ maxLen := by
                  obtain ⟨x, c, hv, h1, h2⟩ := hr1.len
                  rw [hv1] at hv
                  injection hv with _ hv hv'
                  subst hv'
                  exact ⟨hv, h1, h2⟩
                obtain ⟨rfl, hnc, hcm⟩ := hn
                rw [hv1] at hr1
                by_cases hfit : els.length + els'.length ≤ c
                · have hrun := run_append_in (P := P) w t o.type e info hut k1 b off els.length c arr T' hblk ⟨b2, o2, none⟩ els'.length c2 row2 hrl2 hnews (RepL.ones r2) hfit (by
                    rw [hrl2, k4, Nat.add_assoc, ← Nat.add_mul]
                    have : (els.length + els'.length) * j.size ≤ c * j.size := Nat.mul_le_mul_right _ hfit
                    omega)
                  rw [k4] at hrun
                  refine wp_value (hex (by rw [hv1, hv2]; exact hrun)) ?_
                  rw [hd]
                  exact append_in h hr1 (fun _ => hes) hes' hsz hgb hB hblk hcap hfree r2 hfit hcm
                · have hrow : ∃ row : List Value, RepL S w els.flatten row ∧ Lies w b off row ∧ row.length = els.length * info.size := by
                    rcases Classical.em (els = []) with he | he
                    · subst he
                      exact ⟨[], .nil, by intro q u hu; simp at hu, by simp⟩
                    · obtain ⟨b1, o1, c1, e1, row, hv, _, _, _, hl, r1, r2, r3⟩ := hr1.unrow he
                      injection hv with hv _ hv3
                      injection hv with hv
                      injection hv with hv1 hv2
                      subst hv1 hv2
                      exact ⟨row, r1, r2, by rw [← r1.length, flat_len hes, k4]⟩
                  obtain ⟨row, q1, q2, q3⟩ := hrow
                  have hes2 : ∀ l ∈ els ++ els', l.length = j.size := by
                    intro l hl
                    rcases List.mem_append.1 hl with hl | hl
                    · exact hes l hl
                    · exact hes' l hl
                  have hrun := run_append_grow (P := P) w t o.type e info z hut k1 k3 ⟨b, off, none⟩ els.length c row q3 (fun q u hu => by rw [Addr.add_lit]; exact q2 q u hu) ⟨b2, o2, none⟩ els'.length c2 row2 hrl2 hnews (by omega)
                    (by unfold maxLen at hml; omega) (growslice_fits (by omega) (by rw [k7]; exact hby))
                  have := append_new (e := e) (z := z.cells) (old := c) (d := some d) (els := els ++ els') (row := row ++ row2) hun hes2 hsz (by simpa using hml) (by rw [List.flatten_append]; exact All2.append q1 r2) hzs
                  refine wp_value (hex (by rw [hv1, hv2]; exact hrun)) ?_
                  rw [hd]
                  simpa [putD, setAll] using this
          · rename_i els0 own' els' hgs
            split at hp <;> simp at hp
            rename_i hc2
            obtain ⟨hes', hby, hml⟩ := hc2
            subst hp
            rw [hgs] at hx
            have hr1 : RepC S w (.slice .nil els0) (a.tmps.getD s undef) := by
              have := hx.V trivial
              generalize a.tmps.getD s undef = v1 at this
              cases this with
              | base this => cases this with
                | one this => exact this
            have hr2 := h.evalC hy
            have hv1 : ∃ a1, a.tmps.getD s undef = .slice a1 0 0 := by
              generalize a.tmps.getD s undef = v1 at hr1
              cases hr1
              exact ⟨_, rfl⟩
            obtain ⟨a1, hv1⟩ := hv1
            rcases Classical.em (els' = []) with he' | he'
            · subst he'
              obtain ⟨x2, c2, hv2⟩ := hr2.nil_no
              refine wp_value (hex (v := .slice a1 0 0) (w' := w) ?_) ?_
              · rw [hv1, hv2]
                exact run_append_zero w t _ e info hut k1 _ _ _ _ _ (Nat.le_refl _)
              · rw [hd]
                exact ⟨S, g, bm, hun.put d ⟨RepC.no_empty a1 hsz, .inl ⟨_, rfl⟩, by simp⟩⟩
            · obtain ⟨b2, o2, c2, e2, row2, hv2, hl2, hm2, he2, hlen2, r2, l2, s2⟩ := hr2.unrow he'
              have hpos : 0 < els'.length := List.length_pos_iff.2 he'
              have hrl2 : row2.length = els'.length * info.size := by rw [← r2.length, flat_len hes', k4]
              have hnews : ∀ (q : Nat) u, row2[q]? = some u → w.cell? ((⟨b2, o2, none⟩ : Addr).add q) = some u := fun q u hu => by rw [Addr.add_lit]; exact l2 q u hu
              refine wp_value (hex ?_) (by rw [hd]; exact append_new (e := e) (z := z.cells) (old := 0) (d := some d) hun hes' hsz hml r2 hzs)
              rw [hv1, hv2]
              exact run_append_new0 w t _ e info z hut k1 k3 a1 ⟨b2, o2, none⟩ _ c2 row2 hrl2 hnews hpos (by unfold maxLen at hml; omega) (by rw [k7]; omega)
          · simp at hp
        · simp at hu
      · simp at hu
    · simp at hu
  · simp at hu
theorem append_const_ok (htt : ∀ t i, tt t = some i → tinfo P t = some i) (h : SimX B w0 S0 S g bm st a w) {ops : List Oper} {t : TypeId} {y : Operand} {u : Upd}
    (ho : o.op = .call { callee := .builtin .append, args := #[.const (.slice none 0 0), y], argTypes := #[t, t] }) (hu : eff tt T ops o st.get st.boxes = some u) : o.wp P a w (Sim B w0 S0 (u.app st)) Q := by
  unfold eff at hu
  rw [ho] at hu
  simp only at hu
  split at hu
  · rename_i i q hi hy
    split at hu
    · rename_i e hk
      split at hu
      · rename_i j hj
        split at hu
        · rename_i hcond
          obtain ⟨_, hsz, hzl⟩ := hcond
          split at hu <;> simp at hu
          rename_i p d hp hd
          subst hu
          have hut := (tinfo_spec (htt _ _ hi)).slice hk
          obtain ⟨info, dd, z, k1, k2, k3, k4, k5, k6, k7, _⟩ := (tinfo_spec (htt _ _ hj)).ex
          have hzs : z.cells.size = j.size := by rw [← Array.length_toList, zcs_vals k6]; simpa using hzl
          have hex : ∀ {v w'}, (Builtin.append_ #[t, t] o.type #[.slice none 0 0, a.eval y]).run P w = .ok v w' → (execOp a.eval o).run P w = .ok (.value v) w' := by
            intro v w' hv
            simp only [execOp, ho, resolve, Sem.run_bind, Sem.run_pure, Result.andThen_ok, invoke, builtin]
            have hev : a.eval (.const (.slice none 0 0)) = .slice none 0 0 := rfl
            simp [hev, hv]
          show o.wp P a w (Sim B w0 S0 ⟨st.env.set d p, st.boxes⟩) Q
          unfold appendC at hp
          split at hp
          · rename_i heq
            simp at heq
          · rename_i els0 own' els' hgs
            split at hp <;> simp at hp
            rename_i hc2
            obtain ⟨hes', hby, hml⟩ := hc2
            subst hp
            have hr2 := h.evalC hy
            rcases Classical.em (els' = []) with he' | he'
            · subst he'
              obtain ⟨x2, c2, hv2⟩ := hr2.nil_no
              refine wp_value (hex (v := .slice none 0 0) (w' := w) ?_) ?_
              · rw [hv2]
                exact run_append_zero w t _ e info hut k1 _ _ _ _ _ (Nat.le_refl _)
              · rw [hd]
                exact ⟨S, g, bm, h.put d ⟨RepC.no_empty none hsz, .inl ⟨_, rfl⟩, by simp⟩⟩
            · obtain ⟨b2, o2, c2, e2, row2, hv2, hl2, hm2, he2, hlen2, r2, l2, s2⟩ := hr2.unrow he'
              have hpos : 0 < els'.length := List.length_pos_iff.2 he'
              have hrl2 : row2.length = els'.length * info.size := by rw [← r2.length, flat_len hes', k4]
              have hnews : ∀ (q : Nat) u, row2[q]? = some u → w.cell? ((⟨b2, o2, none⟩ : Addr).add q) = some u := fun q u hu => by rw [Addr.add_lit]; exact l2 q u hu
              refine wp_value (hex ?_) (by rw [hd]; exact append_new (e := e) (z := z.cells) (old := 0) (d := some d) h hes' hsz hml r2 hzs)
              rw [hv2]
              exact run_append_new0 w t _ e info z hut k1 k3 none ⟨b2, o2, none⟩ _ c2 row2 hrl2 hnews hpos (by unfold maxLen at hml; omega) (by rw [k7]; omega)
          · simp at hp
        · simp at hu
      · simp at hu
    · simp at hu
  · simp at hu
end
end Go.Ab
end
section
namespace Go.Ab
open Go.RowKit
set_option linter.unusedVariables false
section
variable {P : Program} {tt : TT} {T : Tab} {B : Nat} {w0 : World} {S0 S S' : Nat → Nat → Prop} {g g' : Nat → Option Occ} {bm bm' : Nat → Option Nat} {st st' : ASt} {a : Act} {w w' : World} {Q : Exit → Act → World → Prop} {o : Oper}

theorem val_of {x : Sem Value} {p : PV} (hx : execOp a.eval o = (do pure (.value (← x)))) (h : Val P S bm w x p) : ∃ v, (execOp a.eval o).run P w = .ok (.value v) w ∧ RepV S w bm p v := by
  obtain ⟨v, h1, h2⟩ := h
  exact ⟨v, by rw [hx]; simp [h1], h2⟩
theorem pureOp_ok (htt : ∀ t i, tt t = some i → tinfo P t = some i) (h : SimX B w0 S0 S g bm st a w) {p : PV} (hp : pureOp tt T st.get o.op = some p) :
    ∃ v, (execOp a.eval o).run P w = .ok (.value v) w ∧ RepV S w bm p v := by
  cases hop : o.op <;> rw [hop] at hp
  case pick c x y =>
    obtain ⟨v, h1, h2⟩ := pick_ok (P := P) h hp
    refine ⟨v, ?_, h2⟩
    simp at h1
    simp only [execOp, hop, Sem.run_bind, Sem.run_pure]
    generalize (asBool (a.eval c)).run P w = r at h1
    cases r with
    | ok b w' => simp at h1 ⊢; obtain ⟨rfl, rfl⟩ := h1; simp
    | halt _ _ => simp [Result.andThen] at h1
  case build t parts => exact val_of (by simp only [execOp, hop]) (build_ok htt h hp)
  case binOp op t x y t' => exact val_of (by simp only [execOp, hop]) (bin_op_ok htt h hp)
  case unOp op t x => exact val_of (by simp only [execOp, hop]) (unOp_ok h hp)
  case convert s d x => exact val_of (by simp only [execOp, hop]) (convert_ok htt h hp)
  case fieldAddr s x f => exact val_of (by simp only [execOp, hop]) (fieldAddr_ok htt h hp)
  case field s x f => exact val_of (by simp only [execOp, hop]) (field_ok htt h hp)
  case indexAddr t x i => exact val_of (by simp only [execOp, hop]) (indexAddr_ok htt h hp)
  case index t x i => exact val_of (by simp only [execOp, hop]) (index_ok htt h hp)
  case extract x n => exact val_of (by simp only [execOp, hop]) (extract_ok h hp)
  case call c =>
    unfold pureOp at hp
    split at hp
    all_goals first
      | (simp at hp; done)
      | (rename_i heq; cases heq; done)
      | skip
    rename_i x t heq
    injection heq with heq
    subst heq
    have := len_ok (ty := o.type) htt h (x := x) (t := t) (T := T) (p := p) (by simp only [pureOp]; exact hp)
    obtain ⟨v, h1, h2⟩ := this
    refine ⟨v, ?_, h2⟩
    simp only [execOp, hop, resolve, Sem.run_bind, Sem.run_pure, Result.andThen_ok, invoke, builtin]
    simp [h1]
  all_goals (simp [pureOp] at hp)

theorem eff_ok (htt : ∀ t i, tt t = some i → tinfo P t = some i) (hT : ∀ f F, T f = some F → Impl P f F) (h : SimX B w0 S0 S g bm st a w) {ops : List Oper} {u : Upd} (hu : eff tt T ops o st.get st.boxes = some u) :
    o.wp P a w (Sim B w0 S0 (u.app st)) Q := by
  have hpure : ∀ {p}, pureOp tt T st.get o.op = some p → o.wp P a w (Sim B w0 S0 (Upd.app ⟨putD o.dst p, none⟩ st)) Q := by
    intro p hp
    obtain ⟨v, h1, h2⟩ := pureOp_ok htt h hp
    exact wp_value h1 ⟨S, g, bm, h.putDst o.dst h2⟩
  have hmake : ∀ {p}, makeOp tt T st.get o.op = some p → o.wp P a w (Sim B w0 S0 (Upd.app ⟨putD o.dst p, none⟩ st)) Q := by
    intro p hp
    have hp0 := hp
    unfold makeOp at hp
    split at hp
    · rename_i f args ts heq
      exact call_ok hT h heq hp0
    · rename_i t len parts heq
      exact buildSlice_ok htt h heq hp0
    · simp at hp
  have htake : ∀ {x p ws}, o.op = .move x ∨ o.op = .assign x → (taken st.get x = some (p, ws) ∨ takenT tt o.type st.get x = some (p, ws)) → o.wp P a w (Sim B w0 S0 (Upd.app ⟨ws ++ putD o.dst p, none⟩ st)) Q := by
    intro x p ws hop ht
    have hrun : (execOp a.eval o).run P w = .ok (.value (a.eval x)) w := by
      rcases hop with hop | hop <;> simp [execOp, hop]
    refine wp_value hrun ?_
    cases hd : o.dst with
    | none =>
      obtain ⟨g', h1, h2, _⟩ := ht.elim (fun ht => taken_ok h ht (.box 0)) (fun ht => takenT_ok h ht (.box 0))
      exact ⟨S, g', bm, by simpa [putD, Upd.app, Act.put] using h1⟩
    | some d =>
      obtain ⟨g', h1, h2, _⟩ := ht.elim (fun ht => taken_ok h ht (.slot d)) (fun ht => takenT_ok h ht (.slot d))
      have hs : setAll st.env (ws ++ [(d, p)]) = (setAll st.env ws).set d p := by
        clear h1 h2 ht
        generalize st.env = e
        induction ws generalizing e with
        | nil => rfl
        | cons x ws ih => exact ih _
      refine ⟨S, g', bm, ?_⟩
      simp only [putD, Upd.app, hs]
      exact h1.put d h2
  have hu0 := hu
  unfold eff at hu
  split at hu
  · rename_i x heq
    split at hu
    · split at hu <;> simp at hu
      rename_i p ws ht
      subst hu
      exact htake (.inl heq) (.inl ht)
    · split at hu <;> simp at hu
      rename_i p hp
      subst hu
      have hrun : (execOp a.eval o).run P w = .ok (.value (a.eval x)) w := by simp [execOp, heq]
      exact wp_value hrun ⟨S, g, bm, h.putDst o.dst (h.eval hp)⟩
  · rename_i x heq
    split at hu <;> simp at hu
    rename_i p ws ht
    subst hu
    exact htake (.inr heq) (.inr ht)
  · rename_i t heq
    split at hu <;> simp at hu
    rename_i i hi
    subst hu
    have ht := tinfo_spec (htt _ _ hi)
    obtain ⟨z, hz, hzc⟩ := ht.zero w
    obtain ⟨g', bm', hb, hs⟩ := h.alloc t (zero_rep S w i.zero)
    have hrun : (execOp a.eval o).run P w = .ok (.value (.pointer (some ⟨w.heap.size, 0, none⟩))) (w.alloc (.cells (i.zero.map Zc.val).toArray t)) := by
      have : z.cells = (i.zero.map Zc.val).toArray := by apply Array.ext'; simpa using hzc
      simp [execOp, heq, Instr.alloc, hz, newVar, newRow, this]
    exact wp_value hrun ⟨S, g', bm', hs.putDst o.dst (.base (.ptr _ _ _ hb))⟩
  · rename_i t x heq
    split at hu
    · rename_i p hp
      split at hu <;> simp at hu
      rename_i cs hcs
      subst hu
      have hrep : RepL S w cs (a.eval x).cells.toList := by
        cases p with
        | one c =>
          simp [PV.cells] at hcs
          subst hcs
          have hc := h.evalC hp
          have h1 := hc.one
          generalize a.eval x = v at hc h1 ⊢
          have : v.cells.toList = [v] := by cases v <;> simp_all [Value.cells, Value.oneCell']
          rw [this]
          exact .cons hc .nil
        | agg ds =>
          simp [PV.cells] at hcs
          subst hcs
          have hb := h.evalB hp (by simp)
          generalize a.eval x = v at hb ⊢
          cases hb with
          | agg hb => simpa [Value.cells] using hb
        | _ => simp [PV.cells] at hcs
      obtain ⟨g', bm', hb, hs⟩ := h.alloc t hrep
      have hrun : (execOp a.eval o).run P w = .ok (.value (.pointer (some ⟨w.heap.size, 0, none⟩))) (w.alloc (.cells (a.eval x).cells.toList.toArray t)) := by
        simp [execOp, heq, Instr.box, newVar, newRow]
      exact wp_value hrun ⟨S, g', bm', hs.putDst o.dst (.base (.ptr _ _ _ hb))⟩
    · simp at hu
  · rename_i t x heq
    exact load_ok htt h heq hu0
  · rename_i t x y heq
    exact store_ok htt h heq hu0
  · rename_i s y t t' heq
    have htt' : t' = t := by
      split at hu
      · split at hu
        · split at hu
          · split at hu
            · rename_i hc; exact hc.1
            · simp at hu
          · simp at hu
        · simp at hu
      · simp at hu
    subst htt'
    exact append_ok htt h heq hu0
  · rename_i y t t' heq
    have htt' : t' = t := by
      split at hu
      · split at hu
        · split at hu
          · split at hu
            · rename_i hc; exact hc.1
            · simp at hu
          · simp at hu
        · simp at hu
      · simp at hu
    subst htt'
    exact append_const_ok htt h heq hu0
  · split at hu
    · rename_i p hp
      simp at hu
      subst hu
      exact hpure hp
    · split at hu <;> simp at hu
      rename_i p hp
      subst hu
      exact hmake hp
end
end Go.Ab
end
section
namespace Go.Ab
open Go.RowKit
set_option linter.unusedVariables false
section
variable {P : Program} {tt : TT} {T : Tab} {B : Nat} {w0 : World} {S0 S S' : Nat → Nat → Prop} {g g' : Nat → Option Occ} {bm bm' : Nat → Option Nat} {st st' : ASt} {a : Act} {w w' : World} {Q : Exit → Act → World → Prop} {o : Oper}

theorem SimX.skipD (h : SimX B w0 S0 S g bm st a w) (d : Option Nat) : SimX B w0 S0 S g bm ⟨setAll st.env (putD d .skip), st.boxes⟩ (a.put d undef) w := h.putDst d (.base .skip)

theorem goes_ok (h : SimX B w0 S0 S g bm st a w) {ops : List Oper} {r : Bool} (hr : goes ops st.get o.guard = some r) : Region.wanted o (yielded ops.toArray a.tmps) = r := by
  unfold Region.wanted
  unfold goes at hr
  cases hg : o.guard with
  | none => rw [hg] at hr; simp at hr; simp [hr]
  | some gw =>
    obtain ⟨j, want⟩ := gw
    rw [hg] at hr
    simp only at hr ⊢
    unfold yielded
    simp only [List.getElem?_toArray]
    cases hj : ops[j]? with
    | none => simp [hj] at hr; simp [← hr]
    | some o' =>
      rw [hj] at hr
      simp only at hr
      cases hd : o'.dst with
      | none => simp [hd] at hr; simp [hd, ← hr]
      | some d =>
        rw [hd] at hr
        simp only at hr
        have hs := h.slot d
        simp only [Option.bind_some, hd]
        split at hr
        · rename_i b he
          simp at hr
          rw [he] at hs
          have hv : a.tmps.getD d undef = .bool b := by
            have := hs.V trivial
            generalize a.tmps.getD d undef = v at this
            cases this with
            | base this => cases this with
              | one this => cases this; rfl
          have ht : a.tmps[d]? = some (.bool b) := by
            cases hq : a.tmps[d]? with
            | none => simp [Array.getD_eq_getD_getElem?, hq, undef] at hv
            | some v => simp [Array.getD_eq_getD_getElem?, hq] at hv; rw [hv]
          simp [ht, ← hr]
        · rename_i he
          simp at hr
          rw [he] at hs
          have hv : a.tmps.getD d undef = undef := by
            have := hs.V trivial
            generalize a.tmps.getD d undef = v at this
            cases this with
            | base this => cases this; rfl
          cases hq : a.tmps[d]? with
          | none => simp [← hr]
          | some v =>
            simp [Array.getD_eq_getD_getElem?, hq] at hv
            subst hv
            simp [undef, ← hr]
        · simp at hr

theorem run1_ok (htt : ∀ t i, tt t = some i → tinfo P t = some i) (hT : ∀ f F, T f = some F → Impl P f F) (h : Sim B w0 S0 st a w) {ops : List Oper} (hr : run1 tt T ops o st = some st') :
    if Region.wanted o (yielded ops.toArray a.tmps) then o.wp P a w (Sim B w0 S0 st') Q else Sim B w0 S0 st' (a.put o.dst undef) w := by
  obtain ⟨S, g, bm, h⟩ := h
  unfold run1 at hr
  split at hr <;> simp at hr
  rename_i u hu
  subst hr
  unfold step1 at hu
  split at hu
  · rename_i hg
    rw [goes_ok h hg]
    exact eff_ok htt hT h hu
  · rename_i hg
    rw [goes_ok h hg]
    simp at hu
    subst hu
    exact ⟨S, g, bm, h.skipD o.dst⟩
  · simp at hu

theorem runL_ok (htt : ∀ t i, tt t = some i → tinfo P t = some i) (hT : ∀ f F, T f = some F → Impl P f F) {ops : List Oper} : ∀ {l : List Oper} {st : ASt} {a : Act} {w : World}, Sim B w0 S0 st a w → runL tt T ops l st = some st' →
    (∀ a w, Sim B w0 S0 st' a w → Q .normal a w) → wpList P ops.toArray Q l a w
  | [], st, a, w, h, hr, hq => by
    simp [runL] at hr
    subst hr
    exact hq _ _ h
  | o :: l, st, a, w, h, hr, hq => by
    simp only [runL] at hr
    split at hr
    · rename_i st1 h1
      have := run1_ok (Q := Q) htt hT h h1
      unfold wpList
      split
      · rename_i hw
        rw [if_pos hw] at this
        exact .inl (Oper.wp_mono (fun a w hs => runL_ok htt hT hs hr hq) this)
      · rename_i hw
        rw [if_neg hw] at this
        exact runL_ok htt hT this hr hq
    · simp at hr

def AE.to : AE → Exit
  | .normal => .normal
  | .exit id => .exit id
  | .ret => .ret
def Post (B : Nat) (w0 : World) (S0 : Nat → Nat → Prop) (r : AE × ASt) (e : Exit) (a : Act) (w : World) : Prop := e = r.1.to ∧ Sim B w0 S0 r.2 a w

theorem forget_ok (h : Sim B w0 S0 st a w) (ks : List Nat) (n : Nat) : Sim B w0 S0 (forget ks n st) a w := by
  obtain ⟨S, g, bm, h⟩ := h
  refine ⟨S, g, fun id => if id < n then bm id else none, h.dfr, by simp [forget, h.size], fun i p v hp hv => ?_, fun id b hb => ?_, fun id k hk => ?_, h.below, h.base, h.mono, h.fresh, h.slt⟩
  · simp only [forget, List.getElem?_map, List.getElem?_zipIdx] at hp
    cases hq : st.env[i]? with
    | none => simp [hq] at hp
    | some q =>
      simp [hq] at hp
      have hs := h.slots i q v hq hv
      have hund : RepS g S w (fun id => if id < n then bm id else none) B (.slot i) .undef v := RepS.of_V (.base (.undef _))
      split at hp
      · rcases notTip_em q with hn | hn
        · have hV := hs.V hn
          have hkeep : ∀ {q'}, (∀ id off, q' ≠ .ptr id off) → (∀ id off n e, q' ≠ .mref id off n e) → (∀ ps, q' ≠ .tup ps) → RepV S w bm q' v → RepS g S w (fun id => if id < n then bm id else none) B (.slot i) q' v := by
            intro q' h1 h2 h3 hv
            refine RepS.of_V ?_
            cases hv with
            | base hv => cases hv with
              | undef => exact .base (.undef _)
              | skip => exact .base .skip
              | one h => exact .base (.one h)
              | agg h => exact .base (.agg h)
              | ref b o vs a1 a2 a3 => exact .base (.ref b o vs a1 a2 a3)
              | ptr id off => exact absurd rfl (h1 _ _)
              | mref id off n e => exact absurd rfl (h2 _ _ _ _)
            | tup => exact absurd rfl (h3 _)
          cases q with
          | ptr id off =>
            simp at hp
            split at hp
            · rename_i hlt
              subst hp
              cases hV with
              | base hV => cases hV with
                | ptr _ _ k hk => exact RepS.of_V (.base (.ptr _ _ k (by simp [hlt, hk])))
            · subst hp; exact hund
          | mref id off n' e =>
            simp at hp
            split at hp
            · rename_i hlt
              subst hp
              cases hV with
              | base hV => cases hV with
                | mref _ _ _ _ c k hk h1 h2 => exact RepS.of_V (.base (.mref _ _ _ _ c k (by simp [hlt, hk]) h1 h2))
            · subst hp; exact hund
          | tup ps => simp at hp; subst hp; exact hund
          | undef => simp at hp; subst hp; exact hund
          | skip => simp at hp; subst hp; exact hkeep (by simp) (by simp) (by simp) hV
          | one c => simp at hp; subst hp; exact hkeep (by simp) (by simp) (by simp) hV
          | agg cs => simp at hp; subst hp; exact hkeep (by simp) (by simp) (by simp) hV
          | ref cs => simp at hp; subst hp; exact hkeep (by simp) (by simp) (by simp) hV
        · obtain ⟨e, els, rfl, h1, h2⟩ := hs.tip hn
          simp at hp
          subst hp
          exact ⟨h1, h2⟩
      · subst hp; exact hund
  · simp only [forget, List.getElem?_take] at hb
    split at hb
    · rename_i hlt
      obtain ⟨k, hk, hB⟩ := h.boxes id b hb
      exact ⟨k, by simp [hlt, hk], hB⟩
    · simp at hb
  · simp at hk
    have := h.dom id k hk.2
    simp [forget]
    omega

theorem iter_ok (htt : ∀ t i, tt t = some i → tinfo P t = some i) {c : Code} {f : ASt → Option (AE × ASt)} {kp : List Nat × Nat} {r : AE × ASt}
    (hf : ∀ st a w r, f st = some r → Sim B w0 S0 st a w → c.wp P (Post B w0 S0 r) a w) : ∀ (n : Nat) (st : ASt) (a : Act) (w : World), iter kp f n st = some r → Sim B w0 S0 st a w → Code.rounds P c (Post B w0 S0 r) n a w
  | 0, st, a, w, hi, h => by simp [iter] at hi
  | n + 1, st, a, w, hi, h => by
    rw [rounds_succ]
    simp only [iter] at hi
    cases hr : f (forget kp.1 kp.2 st) with
    | none => simp [hr] at hi
    | some r1 =>
      have h1 := hf _ a w r1 hr (forget_ok h _ _)
      obtain ⟨ae, st1⟩ := r1
      refine Code.wp_mono (fun e a' w' hp => ?_) h1
      obtain ⟨he, hs⟩ := hp
      cases ae with
      | normal =>
        simp only [AE.to] at he
        subst he
        rw [hr] at hi
        exact iter_ok htt hf n st1 a' w' hi hs
      | exit id =>
        rw [hr] at hi
        simp at hi
        subst hi
        simp only [AE.to] at he
        subst he
        exact ⟨rfl, hs⟩
      | ret =>
        rw [hr] at hi
        simp at hi
        subst hi
        simp only [AE.to] at he
        subst he
        exact ⟨rfl, hs⟩
end
end Go.Ab
end
