import Derived.Test.YtconfbgcjkjnkaaDoorAvP2
import Derived.ChangeSlices
import Derived.Below
section
namespace Go.Av
open Go.RowKit
set_option linter.unusedVariables false

def TypedFs (R : TypeId → List Cell → Prop) : List TypeId → List Cell → Prop
 | [], cs => cs = []
 | t :: ts, cs => ∃ a b, cs = a ++ b ∧ R t a ∧ TypedFs R ts b
/-- the cells of a value of a type -/
def Typed (tt : TT) : Nat → TypeId → List Cell → Prop
 | 0, _, _ => False
 | n + 1, t, cs => match tt t with
  | some i => (match i.kind with
   | .int k => ∃ x, cs = [.v (.int k x)] ∧ (Lit.int k x).wf = true
   | .bool => ∃ b, cs = [.v (.bool b)]
   | .str => ∃ s : ByteArray, cs = [.v (.string s)] ∧ s.size ≤ maxLen
   | .slice e => ∃ els, cs = [.slice .no els] ∧ els.length ≤ maxLen ∧ ∀ l ∈ els, Typed tt n e l
   | .struct fs => TypedFs (Typed tt n) (fs.map (·.2)) cs
   | .array m e => ∃ ps : List (List Cell), cs = ps.flatten ∧ ps.length = m ∧ ∀ l ∈ ps, Typed tt n e l
   | .map _ _ => False
   | .other => False)
  | none => False
def okFs (tt : TT) (f : TypeId → Bool) : List (Nat × TypeId) → Nat → Nat → Bool
 | [], off, n => off == n
 | (o, t) :: fs, off, n => o == off && f t && (match szOf tt t with | some s => okFs tt f fs (off + s) n | none => false)
def okTy (tt : TT) : Nat → TypeId → Bool
 | 0, _ => false
 | n + 1, t => match tt t with
  | some i => (match i.kind with
   | .int _ => i.size == 1
   | .bool => i.size == 1
   | .str => i.size == 1
   | .slice e => i.size == 1 && okTy tt n e && (match szOf tt e with | some s => decide (0 < s) | none => false)
   | .struct fs => okFs tt (okTy tt n) fs 0 i.size
   | .array m e => okTy tt n e && (match szOf tt e with | some s => i.size == m * s | none => false)
   | .map _ _ => false
   | .other => false)
  | none => false
theorem mapM_all {α β : Type} {f : α → Option β} : ∀ {l : List α} {r : List β}, l.mapM f = some r → ∀ a ∈ l, ∃ b, f a = some b
 | [], r, _, a, ha => by simp at ha
 | x :: l, r, h, a, ha => by
  rw [List.mapM_cons] at h
  cases hx : f x with
  | none => simp [hx] at h
  | some b =>
   cases hl : l.mapM f with
   | none => simp [hx, hl] at h
   | some r' =>
    rcases List.mem_cons.1 ha with rfl | ha
    ·exact ⟨b, hx⟩
    ·exact mapM_all hl a ha
theorem mapM_get {α β : Type} {f : α → Option β} : ∀ {l : List α} {r : List β}, l.mapM f = some r → ∀ {i : Nat} {a : α}, l[i]? = some a → ∃ b, r[i]? = some b ∧ f a = some b
 | [], r, _, i, a, ha => by simp at ha
 | x :: l, r, h, i, a, ha => by
  rw [List.mapM_cons] at h
  cases hx : f x with
  | none => simp [hx] at h
  | some b =>
   cases hl : l.mapM f with
   | none => simp [hx, hl] at h
   | some r' =>
    simp [hx, hl] at h
    subst h
    cases i with
    | zero => simp at ha; subst ha; exact ⟨b, by simp, hx⟩
    | succ i => simpa using mapM_get hl (by simpa using ha)
theorem mapM_len {α β : Type} {f : α → Option β} : ∀ {l : List α} {r : List β}, l.mapM f = some r → r.length = l.length
 | [], r, h => by simp at h; subst h; rfl
 | x :: l, r, h => by
  rw [List.mapM_cons] at h
  cases hx : f x with
  | none => simp [hx] at h
  | some b =>
   cases hl : l.mapM f with
   | none => simp [hx, hl] at h
   | some r' => simp [hx, hl] at h; subst h; simp [mapM_len hl]
section
variable {H : Type} {enc : TypeId × Value → H} {P : Program} {tt : TT} {w : World} {base : Nat} {spare : Nat → Bool} {held : Bool}
theorem cellsOf_tt (htt : ∀ t i, tt t = some i → tinfo P t = some i) {t : TypeId} {i : TI} (h : tt t = some i) : P.cellsOf t = i.size := by
 obtain ⟨info, d, z, h1, h2, h3, h4, _⟩ := (tinfo_spec (htt _ _ h)).ex
 simp [Program.cellsOf, h1, h4]
theorem cellsOf_sz (htt : ∀ t i, tt t = some i → tinfo P t = some i) {t : TypeId} {s : Nat} (h : szOf tt t = some s) : P.cellsOf t = s := by
 unfold szOf at h
 split at h <;> simp at h
 rename_i i hi
 rw [cellsOf_tt htt hi, h]
theorem trod_arr {t e : TypeId} {n fuel : Nat} {cs : List Value} {x : DataW H × List MemPlace} (ht : P.underlying t = some (.array n e)) (h : DataW.trod enc P w base spare held fuel t cs = some x) :
  ∃ m, fuel = m + 1 ∧ cs.length = P.cellsOf t ∧ ∀ i, i < n → ∃ y, DataW.trod enc P w base spare held m e ((cs.drop (i * P.cellsOf e)).take (P.cellsOf e)) = some y := by
 cases fuel with
 | zero => simp [DataW.trod] at h
 | succ m =>
  refine ⟨m, rfl, ?_⟩
  unfold DataW.trod at h
  rw [ht] at h
  split at h <;> simp_all
  rename_i h2
  obtain ⟨hl, xs, hxs, _⟩ := h
  intro i hi
  obtain ⟨⟨y1, y2⟩, hy⟩ := mapM_all hxs i (by simpa using hi)
  exact ⟨y1, y2, hy⟩
theorem mapM_cell {a : Addr} {vs : List Value} {n : Nat} (h : (List.range n).mapM (fun i => w.cell? (a.add i)) = some vs) : vs.length = n ∧ ∀ j, j < n → ∃ v, vs[j]? = some v ∧ w.cell? (a.add j) = some v := by
 refine ⟨by simpa using mapM_len h, fun j hj => ?_⟩
 obtain ⟨b, h1, h2⟩ := mapM_get h (i := j) (a := j) (by simp [hj])
 exact ⟨b, h1, h2⟩
theorem spot_none {a : Addr} {v : Value} (h : w.cell? a = some v) : a.spot = none ∧ a.block < w.heap.size := by
 unfold World.cell? at h
 split at h
 ·rename_i hb
  split at h
  ·simp at h
  ·rename_i hs
   exact ⟨by simpa using hs, heap_lt hb⟩
 ·simp at h
theorem fs_open (htt : ∀ t i, tt t = some i → tinfo P t = some i) {R : TypeId → List Cell → Prop} {S : Nat → Nat → Prop} {cs : List Value} {f : TypeId → Bool} : ∀ {fs : List (Nat × TypeId)} {off n : Nat}, okFs tt f fs off n = true → cs.length = n → (∀ o t, (o, t) ∈ fs → f t = true → ∃ cells, RepL S w cells ((cs.drop o).take (P.cellsOf t)) ∧ R t cells) →
  ∃ cells, RepL S w cells (cs.drop off) ∧ TypedFs R (fs.map (·.2)) cells
 | [], off, n, ho, hl, h => by
  simp [okFs] at ho
  exact ⟨[], by rw [List.drop_of_length_le (by omega)]; exact .nil, rfl⟩
 | (o, t) :: fs, off, n, ho, hl, h => by
  simp only [okFs, Bool.and_eq_true, beq_iff_eq] at ho
  obtain ⟨⟨rfl, hf⟩, ho⟩ := ho
  split at ho
  ·rename_i s hs
   obtain ⟨c1, r1, t1⟩ := h o t (by simp) hf
   obtain ⟨c2, r2, t2⟩ := fs_open htt ho hl (fun o' t' hm => h o' t' (by simp [hm]))
   rw [cellsOf_sz htt hs] at r1
   refine ⟨c1 ++ c2, ?_, c1, c2, rfl, t1, t2⟩
   have := r1.append r2
   rw [← List.drop_drop, List.take_append_drop] at this
   exact this
  ·simp at ho
/-- an argument that was read, as cells -/
theorem open_trod (htt : ∀ t i, tt t = some i → tinfo P t = some i) : ∀ (n : Nat) (t : TypeId) (fuel : Nat) (cs : List Value) (x : DataW H × List MemPlace), okTy tt n t = true → DataW.trod enc P w base spare held fuel t cs = some x →
  ∃ cells, RepL (fun b _ => b < w.heap.size) w cells cs ∧ Typed tt n t cells ∧ cs.length = P.cellsOf t := by
 intro n
 induction n with
 | zero => intro t fuel cs x ho; simp [okTy] at ho
 | succ n ih =>
  intro t fuel cs x ho hx
  simp only [okTy] at ho
  cases hi : tt t with
  | none => rw [hi] at ho; simp at ho
  | some i =>
   rw [hi] at ho
   simp only at ho
   have hts := tinfo_spec (htt _ _ hi)
   have hco := cellsOf_tt htt hi
   cases hk : i.kind with
   | other => rw [hk] at ho; simp at ho
   | map => rw [hk] at ho; simp at ho
   | int k =>
    rw [hk] at ho
    simp at ho
    obtain ⟨m, rfl, _, hwf⟩ := DataW.trod_int (hts.int hk) hx
    refine ⟨[.v (.int k m)], .cons (.v _ rfl (by simp)) .nil, ?_, by rw [hco, ho]; rfl⟩
    simp only [Typed, hi, hk]
    exact ⟨m, rfl, hwf⟩
   | bool =>
    rw [hk] at ho
    simp at ho
    have hu : P.underlying t = some .bool := by
     obtain ⟨info, d, z, h1, h2, h3, h4, h5, _⟩ := hts.ex
     rw [hk] at h5
     cases d <;> simp [tkind] at h5
     exact h2
    obtain ⟨m, rfl, _⟩ := DataW.trod_bool hu hx
    refine ⟨[.v (.bool m)], .cons (.v _ rfl (by simp)) .nil, ?_, by rw [hco, ho]; rfl⟩
    simp only [Typed, hi, hk]
    exact ⟨m, rfl⟩
   | str =>
    rw [hk] at ho
    simp at ho
    obtain ⟨m, rfl, _, hwf⟩ := DataW.trod_string (hts.str hk) hx
    refine ⟨[.v (.string m)], .cons (.v _ rfl (by simp)) .nil, ?_, by rw [hco, ho]; rfl⟩
    simp only [Typed, hi, hk]
    exact ⟨m, rfl, hwf⟩
   | slice e =>
    rw [hk] at ho
    simp only [Bool.and_eq_true, beq_iff_eq] at ho
    obtain ⟨⟨ho1, ho2⟩, ho3⟩ := ho
    split at ho3
    ·rename_i s hs
     have hs0 : 0 < s := by simpa using ho3
     have hcs := cellsOf_sz htt hs
     rcases DataW.trod_slice (hts.slice hk) hx with ⟨rfl, _⟩ | ⟨a, len, cap, elems, rest, m, _, rfl, _, hb, hlc, hcm, hel, helem, _, _⟩
     ·refine ⟨[.slice .no []], .cons (RepC.no_empty none (e := 1) (by omega)) .nil, ?_, by rw [hco, ho1]; rfl⟩
      simp only [Typed, hi, hk]
      exact ⟨[], rfl, by simp, by simp⟩
     ·have hat : ∀ j, j < len → ∃ cells vs, RepL (fun b _ => b < w.heap.size) w cells vs ∧ Typed tt n e cells ∧ vs.length = s ∧ ∀ q, q < s → ∃ v, vs[q]? = some v ∧ w.cell? ((a.add (j * s)).add q) = some v := by
       intro j hj
       have h1 := helem j hj
       rw [hcs] at h1
       have hjl : j < elems.length := by omega
       rw [List.getElem?_eq_getElem hjl] at h1
       cases hc : w.cells? base (a.add (j * s)) s with
       | none => rw [hc] at h1; simp at h1
       | some vs =>
        rw [hc] at h1
        simp only [Option.bind_some] at h1
        obtain ⟨cells, r1, r2, r3⟩ := ih e m vs _ ho2 h1
        unfold World.cells? at hc
        split at hc
        ·obtain ⟨l1, l2⟩ := mapM_cell hc
         exact ⟨cells, vs, r1, r2, l1, l2⟩
        ·simp at hc
      -- choose
      have hall : ∃ els : List (List Cell), els.length = len ∧ ∀ (j : Nat) l, els[j]? = some l → ∃ vs, RepL (fun b _ => b < w.heap.size) w l vs ∧ Typed tt n e l ∧ vs.length = s ∧ ∀ q, q < s → ∃ v, vs[q]? = some v ∧ w.cell? ((a.add (j * s)).add q) = some v := by
       revert hat
       generalize len = L
       intro hat
       induction L with
       | zero => exact ⟨[], rfl, by simp⟩
       | succ len ihl =>
        obtain ⟨els, g1, g2⟩ := ihl (fun j hj => hat j (by omega))
        obtain ⟨cells, vs, r1, r2, r3, r4⟩ := hat len (by omega)
        refine ⟨els ++ [cells], by simp [g1], fun j l hl => ?_⟩
        rw [List.getElem?_append] at hl
        split at hl
        ·exact g2 j l hl
        ·have hj : j = len := by
          have := getElem_pos hl
          simp at this
          omega
         subst hj
         simp [g1] at hl
         subst hl
         exact ⟨vs, r1, r2, r3, r4⟩
      obtain ⟨els, g1, g2⟩ := hall
      refine ⟨[.slice .no els], .cons ?_ .nil, ?_, by rw [hco, ho1]; rfl⟩
      ·have hsp : els ≠ [] → a.spot = none ∧ a.block < w.heap.size := by
        intro hne
        have h0 : 0 < els.length := List.length_pos_iff.2 hne
        obtain ⟨vs, _, _, _, h4⟩ := g2 0 els[0] (by simp [h0])
        obtain ⟨v, _, h5⟩ := h4 0 hs0
        have := spot_none h5
        simpa [Addr.add] using this
       have hrep := RepC.slice (S := fun b _ => b < w.heap.size) (w := w) els (some a) cap s a.block a.off (fun i j => (w.cell? ⟨a.block, a.off + i * s + j, none⟩).getD undef) (by omega) hcm (fun l hl => by
        obtain ⟨j, hj⟩ := List.getElem?_of_mem hl
        obtain ⟨vs, r1, _, r3, _⟩ := g2 j l hj
        rw [r1.length, r3]) hs0 (fun hne => by
        obtain ⟨h1, _⟩ := hsp hne
        cases a
        simp at h1
        subst h1
        rfl) (fun j l hl q hq => by
        have hne : els ≠ [] := by rintro rfl; simp at hl
        obtain ⟨h1, h2⟩ := hsp hne
        obtain ⟨vs, _, _, _, h4⟩ := g2 j l hl
        obtain ⟨v, _, h5⟩ := h4 q hq
        have h6 : (a.add (j * s)).add q = ⟨a.block, a.off + j * s + q, none⟩ := by
         obtain ⟨ab, ao, asp⟩ := a
         simp only at h1
         subst h1
         rw [Addr.add_lit, Addr.add_lit]
        rw [h6] at h5
        exact ⟨h2, by rw [h5]; rfl⟩) (fun j l hl q x hx' => by
        have hne : els ≠ [] := by rintro rfl; simp at hl
        obtain ⟨h1, h2⟩ := hsp hne
        obtain ⟨vs, r1, _, r3, h4⟩ := g2 j l hl
        have hq : q < s := by rw [← r3, ← r1.length]; exact getElem_pos hx'
        obtain ⟨v, h7, h5⟩ := h4 q hq
        have h6 : (a.add (j * s)).add q = ⟨a.block, a.off + j * s + q, none⟩ := by
         obtain ⟨ab, ao, asp⟩ := a
         simp only at h1
         subst h1
         rw [Addr.add_lit, Addr.add_lit]
        rw [h6] at h5
        obtain ⟨v', h8, h9⟩ := r1.get hx'
        rw [h7] at h8
        injection h8 with h8
        subst h8
        rw [h5]
        exact h9)
       rw [g1] at hrep
       exact hrep
      ·simp only [Typed, hi, hk]
       refine ⟨els, rfl, by omega, fun l hl => ?_⟩
       obtain ⟨j, hj⟩ := List.getElem?_of_mem hl
       obtain ⟨_, _, r2, _⟩ := g2 j l hj
       exact r2
    ·simp at ho3
   | struct fs =>
    rw [hk] at ho
    simp only at ho
    obtain ⟨fields, hu, rfl⟩ := hts.struct hk
    obtain ⟨xs, m, _, _, hl, hxl, hf⟩ := DataW.trod_struct hu hx
    obtain ⟨cells, r1, r2⟩ := fs_open (P := P) htt (cs := cs) (R := Typed tt n) (S := fun b _ => b < w.heap.size) (w := w) ho (by rw [hl, hco]) (fun o t' hm hok => by
     simp only [List.mem_map] at hm
     obtain ⟨fd, hfd, he⟩ := hm
     injection he with e1 e2
     subst e1 e2
     obtain ⟨j, hj⟩ := List.getElem?_of_mem hfd
     have hj' : fields[j]? = some fd := by simpa using hj
     have h1 := hf j fd hj'
     have hjl : j < xs.length := by have := getElem_pos hj; simp at this; omega
     rw [List.getElem?_eq_getElem hjl] at h1
     obtain ⟨cells, r1, r2, _⟩ := ih fd.type m _ _ hok h1
     exact ⟨cells, r1, r2⟩)
    refine ⟨cells, by simpa using r1, ?_, hl⟩
    simp only [Typed, hi, hk]
    exact r2
   | array m e =>
    rw [hk] at ho
    simp only [Bool.and_eq_true] at ho
    obtain ⟨ho1, ho2⟩ := ho
    split at ho2
    ·rename_i s hs
     simp at ho2
     have hcs := cellsOf_sz htt hs
     obtain ⟨fu, _, hl, hall⟩ := trod_arr (hts.array hk) hx
     rw [hcs] at hall
     have key : ∀ q, q ≤ m → ∃ ps : List (List Cell), ps.length = q ∧ RepL (fun b _ => b < w.heap.size) w ps.flatten (cs.take (q * s)) ∧ ∀ l ∈ ps, Typed tt n e l := by
      intro q
      induction q with
      | zero => intro _; exact ⟨[], rfl, by simpa using All2.nil, by simp⟩
      | succ q ihq =>
       intro hq
       obtain ⟨ps, g1, g2, g3⟩ := ihq (by omega)
       obtain ⟨y, hy⟩ := hall q (by omega)
       obtain ⟨cells, r1, r2, _⟩ := ih e fu _ _ ho1 hy
       refine ⟨ps ++ [cells], by simp [g1], ?_, fun l hl => ?_⟩
       ·have := g2.append r1
        rw [Nat.add_mul, Nat.one_mul, List.take_add]
        simpa using this
       ·simp at hl
        rcases hl with hl | rfl
        ·exact g3 l hl
        ·exact r2
     obtain ⟨ps, g1, g2, g3⟩ := key m (Nat.le_refl _)
     refine ⟨ps.flatten, ?_, ?_, hl⟩
     ·rw [List.take_of_length_le (by rw [hl, hco, ho2]; exact Nat.le_refl _)] at g2
      exact g2
     ·simp only [Typed, hi, hk]
      exact ⟨ps, rfl, g1, g3⟩
    ·simp at ho2
end
/-! what cells of a type are -/
section
variable {tt : TT} {n : Nat} {t e : TypeId} {i : TI} {cs : List Cell}
theorem Typed.int {k : IntKind} (h : Typed tt (n + 1) t cs) (hi : tt t = some i) (hk : i.kind = .int k) : ∃ x, cs = [.v (.int k x)] ∧ (Lit.int k x).wf = true := by
 simp only [Typed, hi, hk] at h; exact h
theorem Typed.arr {m : Nat} {k : IntKind} {j : TI} (h : Typed tt (n + 2) t cs) (hi : tt t = some i) (hk : i.kind = .array m e) (hj : tt e = some j) (hje : j.kind = .int k) : ∃ a : Arr m, cs = arC k a ∧ ∀ x ∈ a.l, (Lit.int k x).wf = true := by
 simp only [Typed, hi, hk] at h
 obtain ⟨ps, rfl, hl, hp⟩ := h
 have key : ∀ ps : List (List Cell), (∀ l ∈ ps, Typed tt (n + 1) e l) → ∃ l : List Int, l.length = ps.length ∧ ps.flatten = ints k l ∧ ∀ x ∈ l, (Lit.int k x).wf = true := by
  intro ps
  induction ps with
  | nil => intro _; exact ⟨[], rfl, rfl, by simp⟩
  | cons p ps ih =>
   intro hp
   obtain ⟨l, h1, h2, h3⟩ := ih fun l hl => hp l (by simp [hl])
   obtain ⟨x, rfl, hx⟩ := Typed.int (hp p (by simp)) hj hje
   refine ⟨x :: l, by simp [h1], by simp [ints, h2], fun y hy => ?_⟩
   rcases List.mem_cons.1 hy with rfl | hy
   ·exact hx
   ·exact h3 y hy
 obtain ⟨l, h1, h2, h3⟩ := key ps hp
 exact ⟨⟨l, by rw [h1, hl]⟩, h2, h3⟩
theorem Typed.row {α : Type} {f : α → List Cell} {R : α → Prop} (h : Typed tt (n + 1) t cs) (hi : tt t = some i) (hk : i.kind = .slice e) (hf : ∀ l, Typed tt n e l → ∃ a, l = f a ∧ R a) : ∃ L : List α, cs = [.slice .no (L.map f)] ∧ L.length ≤ maxLen ∧ ∀ a ∈ L, R a := by
 simp only [Typed, hi, hk] at h
 obtain ⟨els, rfl, hl, hp⟩ := h
 have key : ∀ els : List (List Cell), (∀ l ∈ els, Typed tt n e l) → ∃ L : List α, els = L.map f ∧ ∀ a ∈ L, R a := by
  intro els
  induction els with
  | nil => intro _; exact ⟨[], rfl, by simp⟩
  | cons l els ih =>
   intro hp
   obtain ⟨L, h1, h2⟩ := ih fun l hl => hp l (by simp [hl])
   obtain ⟨a, rfl, ha⟩ := hf l (hp l (by simp))
   refine ⟨a :: L, by simp [h1], fun b hb => ?_⟩
   rcases List.mem_cons.1 hb with rfl | hb
   ·exact ha
   ·exact h2 b hb
 obtain ⟨L, rfl, h2⟩ := key els hp
 exact ⟨L, rfl, by simpa using hl, h2⟩
theorem Typed.ints {k : IntKind} {j : TI} (h : Typed tt (n + 2) t cs) (hi : tt t = some i) (hk : i.kind = .slice e) (hj : tt e = some j) (hje : j.kind = .int k) : ∃ l : List Int, cs = [isC k l] ∧ l.length ≤ maxLen ∧ ∀ x ∈ l, (Lit.int k x).wf = true :=
 Typed.row h hi hk fun l hl => Typed.int hl hj hje
theorem Typed.fs {fs : List (Nat × TypeId)} (h : Typed tt (n + 1) t cs) (hi : tt t = some i) (hk : i.kind = .struct fs) : TypedFs (Typed tt n) (fs.map (·.2)) cs := by
 simp only [Typed, hi, hk] at h; exact h
end
end Go.Av
end
section
namespace Go.Av
open Go.RowKit
set_option linter.unusedVariables false
/-- a law that returns true -/
theorem law_of {P : Program} {G : Glob} {f : FuncId} {F : List PV → Option (PV × List (List Cell))} (h : Impl P G f F) {S : Nat → Nat → Prop} {w : World} {ps : List PV} {vs : List Value} (hg : GlobOk G S w) (hs : ∀ b o, S b o → b < w.heap.size) (ha : ArgsOk S w [] ps vs) (hF : F ps = some (bP true, [])) :
  Calls P f vs.toArray w fun e w' => e = .returned (.bool true) ∧ Below w.heap.size w w' := by
 refine (h.2 S w [] ps vs _ [] hg hs ha List.nodup_nil hF).mono ?_
 rintro e w' ⟨v, S', its, rfl, hr, _, _, hgr⟩
 have hv : v = .bool true := by
  cases hr with
  | base hr => cases hr with
   | one hr => cases hr with
    | pure hr => cases hr; rfl
 subst hv
 exact ⟨rfl, hgr.keep.os, hgr.keep.tape, hgr.keep.output, hgr.keep.size, fun b hb => hgr.keep.block b hb (by simp)⟩
theorem args_one {S : Nat → Nat → Prop} {w : World} {ks : List Nat} {c : Cell} {v : Value} {ps : List PV} {vs : List Value} (h : RepL S w [c] [v]) (h2 : ArgsOk S w ks ps vs) : ArgsOk S w ks (.one c :: ps) (v :: vs) := by
 cases h with
 | cons h _ => exact .one h h2
section
variable {H : Type} {enc : TypeId × Value → H} {P : Program} {tt : TT} {w w0 : World} {base b0 : Nat} {spare : Nat → Bool} {held : Bool} {r : Reach}
/-- an argument of one cell -/
theorem open_one (htt : ∀ t i, tt t = some i → tinfo P t = some i) (n : Nat) {t : TypeId} {v : Value} {d : DataW H} {ps : List MemPlace} (ho : okTy tt n t = true) (hc : v.cells.toList = [v]) (h : DataW.Trod enc P w base spare held t v d ps) :
  ∃ cells, RepL (fun b _ => b < w.heap.size) w cells [v] ∧ Typed tt n t cells := by
 obtain ⟨fuel, hf⟩ := h
 obtain ⟨cells, h1, h2, _⟩ := open_trod htt n t fuel _ _ ho hf
 rw [hc] at h1
 exact ⟨cells, h1, h2⟩
theorem open_slice (htt : ∀ t i, tt t = some i → tinfo P t = some i) (n : Nat) {t e : TypeId} {v : Value} {d : DataW H} {ps : List MemPlace} (ho : okTy tt n t = true) (ht : P.underlying t = some (.slice e)) (hv : Value.okWide P w0 r b0 t v) (h : DataW.Trod enc P w base spare held t v d ps) :
  ∃ cells, RepL (fun b _ => b < w.heap.size) w cells [v] ∧ Typed tt n t cells := by
 obtain ⟨a, l, c, rfl⟩ := WideShapes.okWide_slice ht hv
 exact open_one htt n ho rfl h
theorem open_int (htt : ∀ t i, tt t = some i → tinfo P t = some i) (n : Nat) {t : TypeId} {k : IntKind} {v : Value} {d : DataW H} {ps : List MemPlace} (ho : okTy tt n t = true) (ht : P.underlying t = some (.int k)) (hv : Value.okWide P w0 r b0 t v) (h : DataW.Trod enc P w base spare held t v d ps) :
  ∃ cells, RepL (fun b _ => b < w.heap.size) w cells [v] ∧ Typed tt n t cells := by
 obtain ⟨a, rfl⟩ := WideShapes.okWide_int ht hv
 exact open_one htt n ho rfl h
end
end Go.Av
end
