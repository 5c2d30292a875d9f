import Derived.Test.YtconfbgcjkjnkaaDoorAvP1
import Derived.MapKept
import Derived.Carry
import Derived.Laws.BytesArg
import Derived.Lib.ConvBytes
section
namespace Go.Av
open Go.RowKit
set_option linter.unusedVariables false
section
variable {P : Program} {w : World} {S : Nat → Nat → Prop}
theorem checkKey_flat : ∀ (d : Nat) (t : TypeId) (xs : List Value) (D : Nat) (em : Bool), flatTy P d t = true → d ≤ D → xs.length = P.cellsOf t → (Instr.checkKey em D t (mkV P t xs)).run P w = .ok () w := by
 intro d
 induction d with
 | zero => intro t xs D em h; simp [flatTy] at h
 | succ d ih =>
  intro t xs D em h hD hlen
  obtain ⟨D, rfl⟩ : ∃ D', D = D' + 1 := ⟨D - 1, by omega⟩
  simp only [flatTy] at h
  cases hu : P.underlying t with
  | none => rw [hu] at h; simp at h
  | some td =>
   rw [hu] at h
   obtain ⟨i, hi⟩ := info_of_underlying hu
   cases td with
   | int k =>
    have ha : aggTy P t = false := by simp [aggTy, hu]
    simp [Instr.checkKey, run_underlying hu]
   | array n e =>
    simp only [Bool.and_eq_true, beq_iff_eq] at h
    obtain ⟨he, hsz⟩ := h
    obtain ⟨f1, f2, f3⟩ := flat_info he
    obtain ⟨ei, hei⟩ := Option.isSome_iff_exists.1 f1
    have hse : P.cellsOf e = ei.size := by simp [Program.cellsOf, hei]
    have ha : aggTy P t = true := by simp [aggTy, hu]
    simp only [mkV, ha, if_true]
    rw [Instr.checkKey]
    simp only [Sem.run_bind, run_underlying hu, Result.andThen_ok]
    simp only [Std.Legacy.Range.forIn_eq_forIn_range', Std.Legacy.Range.size, Nat.sub_zero, Nat.add_one_sub_one, Nat.div_one]
    have each : ∀ j ∈ List.range' 0 n, j < n := fun j hj => by simp at hj; omega
    generalize List.range' 0 n = is at each
    induction is with
    | nil => simp
    | cons j is ihl =>
     have hj := each j (by simp)
     have hle : j * P.cellsOf e + P.cellsOf e ≤ xs.length := by
      rw [hlen, hsz]
      have : (j + 1) * P.cellsOf e ≤ n * P.cellsOf e := Nat.mul_le_mul_right _ (by omega)
      rw [Nat.add_mul] at this
      omega
     have r1 := ih e ((xs.drop (j * P.cellsOf e)).take (P.cellsOf e)) D em he (by omega) (by simp; omega)
     have r2 := run_part_mk (w := w) f1 f2 hle f3
     simp only [List.forIn_cons, Sem.run_bind, run_sizeOf w hei, Result.andThen_ok, r2, r1, Sem.run_pure]
     exact ihl fun y hy => each y (by simp [hy])
   | struct fs =>
    simp only [Bool.and_eq_true, Bool.not_eq_true'] at h
    obtain ⟨hst, hfs⟩ := h
    have ha : aggTy P t = true := by simp [aggTy, hu]
    simp only [mkV, ha, if_true]
    rw [Instr.checkKey]
    simp only [Sem.run_bind, run_underlying hu, Result.andThen_ok]
    rw [← Array.forIn_toList]
    generalize fs.toList = L at hfs
    generalize 0 = off at hfs
    induction L generalizing off with
    | nil => simp
    | cons f L ihl =>
     obtain ⟨g1, g2, g3, g4⟩ := flatFs_spec hfs
     have hle := flatFs_le g4
     obtain ⟨f1, f2, f3⟩ := flat_info g3
     subst g2
     have r1 := ih f.type ((xs.drop f.offset).take (P.cellsOf f.type)) D em g3 (by omega) (by simp; omega)
     have r2 := run_part_mk (w := w) f1 f2 (show f.offset + P.cellsOf f.type ≤ xs.length by omega) f3
     simp only [List.forIn_cons, Sem.run_bind, g1, ne_eq, not_false_eq_true, if_true, r2, r1, Result.andThen_ok, Sem.run_pure]
     exact ihl _ g4
   | _ => simp at h

/-! keys -/
theorem valsEq_true : ∀ {xs ys : List Value}, valsEq xs ys = some true → xs = ys
 | [], [], _ => rfl
 | [], _ :: _, h => by simp [valsEq] at h
 | _ :: _, [], h => by simp [valsEq] at h
 | x :: xs, y :: ys, h => by
  simp only [valsEq] at h
  split at h <;> simp at h
  rename_i a b h1 h2
  obtain ⟨rfl, rfl⟩ := h
  have hxy : x = y := by
   unfold valEq at h1
   split at h1
   ·split at h1 <;> simp at h1
    rename_i hk
    subst hk h1
    rfl
   ·simp at h1
  rw [hxy, valsEq_true h2]
theorem kKind_len : ∀ {h c : List Cell}, kKind h c = true → c.length = h.length
 | [], [], _ => rfl
 | [], _ :: _, h => by simp [kKind] at h
 | _ :: _, [], h => by simp [kKind] at h
 | x :: h, y :: c, hk => by
  simp only [kKind, Bool.and_eq_true] at hk
  simp [kKind_len hk.2]
theorem kEq_int : ∀ {h kc l : List Cell} {xs ys : List Value}, kKind h kc = true → kKind h l = true → kc.all Cell.isI = true → RepL S w kc xs → RepL S w l ys → valsEq xs ys = some (kEq kc l)
 | [], [], [], xs, ys, _, _, _, hx, hy => by cases hx; cases hy; rfl
 | [], _ :: _, _, xs, ys, h1, _, _, _, _ => by simp [kKind] at h1
 | [], [], _ :: _, xs, ys, _, h2, _, _, _ => by simp [kKind] at h2
 | _ :: _, [], _, xs, ys, h1, _, _, _, _ => by simp [kKind] at h1
 | _ :: _, _ :: _, [], xs, ys, _, h2, _, _, _ => by simp [kKind] at h2
 | z :: h, c :: kc, d :: l, xs, ys, h1, h2, h3, hx, hy => by
  simp only [kKind, Bool.and_eq_true] at h1 h2
  simp only [List.all_cons, Bool.and_eq_true] at h3
  cases hx with
  | cons hx hxs => cases hy with
   | cons hy hys =>
    have ih := kEq_int h1.2 h2.2 h3.2 hxs hys
    cases c with
    | v cv => cases cv with
     | int k a => cases z with
      | v zv => cases zv with
       | int k0 a0 => cases d with
        | v dv => cases dv with
         | int k' b =>
          have e1 := h1.1
          have e2 := h2.1
          simp only [kKind1, decide_eq_true_eq] at e1 e2
          subst e1
          cases hx
          cases hy
          simp [valsEq, valEq, e2, ih, kEq, kEq1]
         | _ => have := h2.1; simp [kKind1] at this
        | _ => have := h2.1; simp [kKind1] at this
       | _ => have := h1.1; simp [kKind1] at this
      | _ => have := h1.1; simp [kKind1] at this
     | _ => have := h3.1; simp [Cell.isI] at this
    | _ => have := h3.1; simp [Cell.isI] at this
/-- the first entry with a key -/
def hitM (n : Nat) (kc : List Cell) : List (List Cell) → List MapEntry → Nat → Option (Nat × Value)
 | l :: ls, e :: es, i => if kEq kc (l.take n) then some (i, e.val) else hitM n kc ls es (i + 1)
 | _, _, _ => none
theorem hit_none {n : Nat} {kc vs : List Cell} {R : List Cell → MapEntry → Prop} : ∀ {ls : List (List Cell)} {es : List MapEntry} {i : Nat}, All2 R ls es → hitM n kc ls es i = none → getM n kc ls = none ∧ putM n kc vs ls = ls ++ [kc ++ vs]
 | [], [], i, _, _ => ⟨rfl, rfl⟩
 | l :: ls, e :: es, i, h, hh => by
  cases h with
  | cons h1 h2 =>
   simp only [hitM] at hh
   split at hh
   ·simp at hh
   ·rename_i hk
    obtain ⟨g1, g2⟩ := hit_none (vs := vs) h2 hh
    simp [getM, putM, hk, g1, g2]
theorem hit_some {n : Nat} {kc vs : List Cell} {R : List Cell → MapEntry → Prop} : ∀ {ls : List (List Cell)} {es : List MapEntry} {i j : Nat} {v : Value}, All2 R ls es → hitM n kc ls es i = some (j, v) →
  ∃ q l e, j = i + q ∧ ls[q]? = some l ∧ es[q]? = some e ∧ e.val = v ∧ kEq kc (l.take n) = true ∧ getM n kc ls = some (l.drop n) ∧ putM n kc vs ls = ls.set q (kc ++ vs)
 | [], [], i, j, v, _, hh => by simp [hitM] at hh
 | l :: ls, e :: es, i, j, v, h, hh => by
  cases h with
  | cons h1 h2 =>
   simp only [hitM] at hh
   split at hh
   ·rename_i hk
    simp only [Option.some.injEq, Prod.mk.injEq] at hh
    obtain ⟨rfl, rfl⟩ := hh
    exact ⟨0, l, e, rfl, rfl, rfl, rfl, hk, by simp [getM, hk], by simp [putM, hk]⟩
   ·rename_i hk
    obtain ⟨q, l', e', rfl, g1, g2, g3, g4, g5, g6⟩ := hit_some (vs := vs) h2 hh
    exact ⟨q + 1, l', e', by omega, by simpa using g1, by simpa using g2, g3, g4, by simp [getM, hk, g5], by simp [putM, hk, g6]⟩
theorem agg_ty {t : TypeId} {i : TI} (h : TSpec P t i) : aggTy P t = i.agg := by
 obtain ⟨info, d, z, h1, h2, h3, h4, h5, h6, h7⟩ := h.ex
 unfold aggTy TI.agg
 rw [h2, ← h5]
 cases d <;> simp [tkind]
theorem cells_ty {t : TypeId} {i : TI} (h : TSpec P t i) : P.cellsOf t = i.size := by
 obtain ⟨info, d, z, h1, h2, h3, h4, _⟩ := h.ex
 simp [Program.cellsOf, h1, h4]
theorem flat_ty {t : TypeId} {i : TI} (h : TSpec P t i) (hf : i.flat = true) : flatTy P 20 t = true := by
 obtain ⟨info, d, z, h1, h2, h3, h4, h5, h6, h7, h8⟩ := h.ex
 rw [h8] at hf
 simp only [Bool.and_eq_true] at hf
 exact hf.1
theorem shaped_mk {t : TypeId} {i : TI} (h : TSpec P t i) {v : Value} {xs : List Value} (hs : Shaped i.agg v xs) : v = mkV P t xs := by
 unfold mkV
 rw [agg_ty h]
 unfold Shaped at hs
 split at hs
 ·rename_i ha; rw [ha]; exact hs
 ·rename_i ha
  simp only [Bool.not_eq_true] at ha
  rw [ha, hs]
  rfl
theorem shape_vals {bm : BM} {bx : Boxes} {p : PV} {v : Value} {cs : List Cell} {agg : Bool} (hp : RepV S w bm bx p v) (hs : shapeP agg p = true) (hc : p.cells = some cs) : ∃ xs, Shaped agg v xs ∧ All2 (RepM S w bm bx) cs xs := by
 cases p with
 | one c =>
  simp [PV.cells] at hc
  subst hc
  simp [shapeP] at hs
  subst hs
  cases hp with
  | base hp => cases hp with
   | one hp => exact ⟨[v], rfl, .cons hp .nil⟩
 | agg ds =>
  simp [PV.cells] at hc
  subst hc
  simp [shapeP] at hs
  subst hs
  cases hp with
  | base hp => cases hp with
   | agg hp => exact ⟨_, rfl, hp⟩
 | _ => simp [PV.cells] at hc
theorem all2_pure {bm : BM} {bx : Boxes} : ∀ {cs : List Cell} {xs : List Value}, All2 (RepM S w bm bx) cs xs → pureL cs = true → RepL S w cs xs
 | [], xs, h, _ => by cases h; exact .nil
 | c :: cs, xs, h, hp => by
  cases h with
  | cons h1 h2 =>
   simp only [pureL, List.all_cons, Bool.and_eq_true] at hp
   exact .cons (h1.pureC hp.1) (all2_pure h2 hp.2)
theorem kKind_pure : ∀ {h c : List Cell}, kKind h c = true → pureL c = true
 | [], [], _ => rfl
 | [], _ :: _, h => by simp [kKind] at h
 | _ :: _, [], h => by simp [kKind] at h
 | x :: h, y :: c, hk => by
  simp only [kKind, Bool.and_eq_true] at hk
  have : y.pureB = true := by
   have := hk.1
   cases y <;> first | rfl | (cases x <;> simp [kKind1] at this)
  simp only [pureL, List.all_cons, Bool.and_eq_true]
  exact ⟨this, kKind_pure hk.2⟩
theorem sameBits_flat : ∀ (n : Nat) (xs : List Value), (∀ x ∈ xs, ∃ k a, x = .int k a) → (xs.zip xs).all (fun (x, y) => Instr.sameBits n x y) = true
 | n, [], _ => rfl
 | n, x :: xs, h => by
  obtain ⟨k, a, rfl⟩ := h x (by simp)
  have := sameBits_flat n xs (fun y hy => h y (by simp [hy]))
  simp only [List.zip_cons_cons, List.all_cons, Bool.and_eq_true]
  exact ⟨by cases n <;> simp [Instr.sameBits], this⟩
theorem ints_vals : ∀ {kc : List Cell} {xs : List Value}, kc.all Cell.isI = true → RepL S w kc xs → ∀ x ∈ xs, ∃ k a, x = .int k a
 | [], xs, _, h => by cases h; simp
 | c :: kc, xs, hi, h => by
  cases h with
  | cons h1 h2 =>
   simp only [List.all_cons, Bool.and_eq_true] at hi
   intro x hx
   rcases List.mem_cons.1 hx with rfl | hx
   ·cases c with
    | v cv => cases cv with
     | int k a => cases h1; exact ⟨k, a, rfl⟩
     | _ => have := hi.1; simp [Cell.isI] at this
    | _ => have := hi.1; simp [Cell.isI] at this
   ·exact ints_vals hi.2 h2 x hx

/-- what is known of a key and a map -/
structure KeyOk (P : Program) (S : Nat → Nat → Prop) (w : World) (kt : TypeId) (ki : TI) (e : Nat) (h kc : List Cell) (v : Value) (kx : List Value) (ls : List (List Cell)) (es : List MapEntry) : Prop where
 ty : TSpec P kt ki
 key : keyTy ki kc = true
 shape : Shaped ki.agg v kx
 rep : RepL S w kc kx
 kind : kKind h kc = true
 len : h.length = ki.size
 flag : (e / 2 % 2 == 1) = ki.agg
 ents : All2 (EntOk S w e h) ls es
section
variable {kt : TypeId} {ki : TI} {e : Nat} {h kc : List Cell} {v : Value} {kx : List Value} {ls : List (List Cell)} {es : List MapEntry}
theorem KeyOk.tail {l : List Cell} {x : MapEntry} (k : KeyOk P S w kt ki e h kc v kx (l :: ls) (x :: es)) : EntOk S w e h l x ∧ KeyOk P S w kt ki e h kc v kx ls es := by
 have := k.ents
 cases this with
 | cons h1 h2 => exact ⟨h1, k.ty, k.key, k.shape, k.rep, k.kind, k.len, k.flag, h2⟩
theorem RepL.take {cs : List Cell} {xs : List Value} (h : RepL S w cs xs) (n : Nat) : RepL S w (cs.take n) (xs.take n) := All2.take h n
theorem KeyOk.eqn {l : List Cell} {x : MapEntry} (k : KeyOk P S w kt ki e h kc v kx (l :: ls) (x :: es)) (hf : ki.kind ≠ .str) : ∃ ekx, Shaped ki.agg x.key ekx ∧ valsEq kx ekx = some (kEq kc (l.take ki.size)) ∧ ekx.length = kx.length := by
 obtain ⟨⟨ekx, evx, h1, h2, h3, h4, h5, h6⟩, k'⟩ := k.tail
 have hkey := k.key
 unfold keyTy at hkey
 rw [if_neg hf] at hkey
 simp only [Bool.and_eq_true] at hkey
 have hr : RepL S w (l.take h.length) ekx := by
  have := h3.take h.length
  rw [← h5, List.take_left] at this
  rw [h5] at this
  exact this
 rw [k.flag] at h1
 refine ⟨ekx, h1, ?_, ?_⟩
 ·rw [← k.len]
  exact kEq_int k.kind h4 hkey.2 k.rep hr
 ·rw [h5, ← k.rep.length, kKind_len k.kind]
theorem ask_ok (hagg : ki.agg = true) : ∀ {ls : List (List Cell)} {es : List MapEntry} {i : Nat}, KeyOk P S w kt ki e h kc v kx ls es → (Instr.findAsking kt v es i).run P w = .ok (hitM ki.size kc ls es i) w
 | [], [], i, k => by simp [Instr.findAsking, hitM]
 | [], _ :: _, i, k => by have := k.ents; cases this
 | _ :: _, [], i, k => by have := k.ents; cases this
 | l :: ls, x :: es, i, k => by
  have hns : ki.kind ≠ .str := by
   intro hs
   have hk := k.key
   unfold keyTy at hk
   rw [if_pos hs, hagg] at hk
   simp at hk
  have hkey := k.key
  unfold keyTy at hkey
  rw [if_neg hns] at hkey
  simp only [Bool.and_eq_true] at hkey
  obtain ⟨ekx, h1, h2, h3⟩ := k.eqn hns
  have hlen : kx.length = P.cellsOf kt := by rw [cells_ty k.ty, ← k.len, ← k.rep.length, kKind_len k.kind]
  have heq := equalIn_flat 20 kt kx ekx _ 10000 w (flat_ty k.ty hkey.1) (by omega) hlen h2
  rw [← shaped_mk k.ty k.shape, ← shaped_mk k.ty h1] at heq
  have heq' : (Op.equal kt v x.key).run P w = .ok (kEq kc (l.take ki.size)) w := heq
  simp only [Instr.findAsking, Sem.run_bind, heq', Result.andThen_ok, hitM]
  cases hb : kEq kc (l.take ki.size) with
  | true => simp
  | false => simpa using ask_ok hagg k.tail.2
theorem findKey_ok (k : KeyOk P S w kt ki e h kc v kx ls es) : (Instr.findKey kt v es).run P w = .ok (hitM ki.size kc ls es 0) w := by
 obtain ⟨info, d, z, h1, h2, h3, h4, h5, h6, h7⟩ := k.ty.ex
 unfold Instr.findKey
 simp only [Sem.run_bind, run_underlying h2, Result.andThen_ok]
 cases ha : ki.agg with
 | true =>
  have hd : ∀ x, Instr.sameNow d v x = none := by
   intro x
   have : ki.agg = true := ha
   unfold TI.agg at this
   rw [← h5] at this
   cases d <;> simp [tkind] at this <;> rfl
  have hfn : Instr.findNow d v es 0 = none ∨ es = [] := by
   cases es with
   | nil => exact .inr rfl
   | cons x es => left; simp [Instr.findNow, hd]
  rcases hfn with hfn | rfl
  ·rw [hfn]
   exact ask_ok ha k
  ·have := k.ents
   cases this
   simp [Instr.findNow, hitM]
 | false =>
  have key : ∀ {ls : List (List Cell)} {es : List MapEntry} {i : Nat}, KeyOk P S w kt ki e h kc v kx ls es → Instr.findNow d v es i = some (hitM ki.size kc ls es i) := by
   intro ls
   induction ls with
   | nil => intro es i k; have := k.ents; cases this; simp [Instr.findNow, hitM]
   | cons l ls ih =>
    intro es i k
    cases es with
    | nil => have := k.ents; cases this
    | cons x es =>
     have ihk := ih (i := i + 1) k.tail.2
     have hsame : Instr.sameNow d v x.key = some (kEq kc (l.take ki.size)) := by
      by_cases hs : ki.kind = .str
      ·have hkey := k.key
       unfold keyTy at hkey
       rw [if_pos hs] at hkey
       simp only [Bool.and_eq_true] at hkey
       obtain ⟨⟨ekx, evx, g1, g2, g3, g4, g5, g6⟩, _⟩ := k.tail
       rw [k.flag, ha] at g1
       generalize x.key = xk at g1 ⊢
       have hsv := k.shape
       rw [ha] at hsv
       simp only [Shaped, Bool.false_eq_true, if_false] at g1 hsv
       subst g1 hsv
       unfold isStr1 at hkey
       split at hkey
       ·rename_i s
        have hrep := k.rep
        cases hrep with
        | cons hr _ =>
         cases hr
         have hh := k.kind
         have hhl := kKind_len hh
         rw [← k.len, ← hhl]
         simp only [List.length_singleton] at g5 ⊢
         match l, g3, g4 with
         | c :: l', g3, g4 =>
          cases g3 with
          | cons g7 _ =>
           rw [← hhl] at g4
           match h, hh, g4 with
           | [z], hh, g4 =>
            simp only [List.length_singleton, List.take_succ_cons, List.take_zero] at g4 ⊢
            simp only [kKind, Bool.and_true] at g4 hh
            cases z with
            | v zv => cases zv with
             | string z0 => cases c with
              | v cv => cases cv with
               | string c0 =>
                cases g7
                rw [hs] at h5
                cases d <;> simp [tkind] at h5
                simp [Instr.sameNow, kEq, kEq1]
               | _ => simp [kKind1] at g4
              | _ => simp [kKind1] at g4
             | _ => simp [kKind1] at hh
            | _ => simp [kKind1] at hh
       ·simp at hkey
      ·obtain ⟨ekx, g1, g2, g3⟩ := k.eqn hs
       have hkey := k.key
       unfold keyTy at hkey
       rw [if_neg hs] at hkey
       simp only [Bool.and_eq_true] at hkey
       have hsv := k.shape
       rw [ha] at g1 hsv
       generalize x.key = xk at g1 ⊢
       simp only [Shaped, Bool.false_eq_true, if_false] at g1 hsv
       subst g1 hsv
       have hfl := flat_ty k.ty hkey.1
       have hta := agg_ty k.ty
       rw [ha] at hta
       simp only [flatTy, h2] at hfl
       unfold aggTy at hta
       rw [h2] at hta
       cases d with
       | int q =>
        simp only [valsEq] at g2
        split at g2 <;> simp at g2
        rename_i a b e1 e2
        have hb : b = true := by simpa [valsEq] using e2.symm
        subst hb
        simp only [Bool.and_true] at g2
        unfold valEq at e1
        split at e1
        ·split at e1 <;> simp at e1
         rename_i hkk
         rw [← g2, ← e1]
         simp [Instr.sameNow, hkk]
        ·simp at e1
       | array _ _ => simp at hta
       | struct _ => simp at hta
       | _ => simp at hfl
     simp only [Instr.findNow, hsame, hitM]
     cases hb : kEq kc (l.take ki.size) with
     | true => simp
     | false => simpa using ihk
  rw [key k]
  rfl
theorem checkKey_ok (k : KeyOk P S w kt ki e h kc v kx ls es) (em : Bool) : (Instr.checkKey em 10000 kt v).run P w = .ok () w := by
 by_cases hs : ki.kind = .str
 ·have hu := k.ty.str hs
  rw [show (10000 : Nat) = 9999 + 1 from rfl]
  generalize 9999 = D
  simp [Instr.checkKey, run_underlying hu]
 ·have hkey := k.key
  unfold keyTy at hkey
  rw [if_neg hs] at hkey
  simp only [Bool.and_eq_true] at hkey
  have := checkKey_flat (P := P) (w := w) 20 kt kx 10000 em (flat_ty k.ty hkey.1) (by omega) (by rw [cells_ty k.ty, ← k.len, ← k.rep.length, kKind_len k.kind])
  rw [← shaped_mk k.ty k.shape] at this
  exact this
end
end
end Go.Av
end
section
namespace Go.Av
open Go.RowKit
set_option linter.unusedVariables false
section
variable {P : Program} {tt : TT} {T : Tab} {G : Glob} {B : Nat} {ks : List Nat} {w0 : World} {S0 S S' : Nat → Nat → Prop} {bm bm' : BM} {bx : Boxes} {st st' : ASt} {a : Act} {w w' : World} {Q : Exit → Act → World → Prop} {o : Oper}
theorem map_abs {nm : Nat} {p : Prop} (h : isMap nm = true) (h' : isMap nm = false) : p := by rw [h] at h'; cases h'
theorem mapNm_map (d : Nat) : isMap (mapNm d) = true := by
 unfold isMap mapNm
 exact decide_eq_true Nat.right_le_or
theorem zero_pure (zs : List Zc) : pureL (zs.map Zc.cell) = true := by
 simp only [pureL, List.all_eq_true, List.mem_map]
 rintro x ⟨z, _, rfl⟩
 cases z <;> rfl
theorem makeMap_ok (htt : ∀ t i, tt t = some i → tinfo P t = some i) (h : SimX G B ks w0 S0 S bm st a w) {t : TypeId} {u : Upd} (ho : o.op = .makeMap t none) (hu : eff tt T G o st.get st.boxes = some u) : o.wp P a w (Sim G B ks w0 S0 (u.app st)) Q := by
 unfold eff at hu
 rw [ho] at hu
 simp only at hu
 split at hu
 ·rename_i i d hi hd
  split at hu
  ·rename_i kt et hk
   split at hu
   ·rename_i ki ei hki hei
    split at hu <;> simp only [Option.some.injEq, reduceCtorEq] at hu
    rename_i hc
    subst hu
    have hMm := mapNm_map d
    generalize mapNm d = M at hMm ⊢
    have hrun : (execOp a.eval o).run P w = .ok (.value (.map (some w.heap.size))) (w.alloc (.map #[] 0)) := by
     simp [execOp, ho, run_makeMap]
    have hal := (Below.refl w.heap.size w).alloc (Nat.le_refl _) (.map #[] 0)
    have hnew : (w.alloc (.map #[] 0)).heap[w.heap.size]? = some (.map #[] 0) := heap_alloc_new w _
    have hsz : w.heap.size < (w.alloc (.map #[] 0)).heap.size := heap_lt hnew
    have hS0 : ∀ o, ¬ S w.heap.size o := fun o hs => Nat.lt_irrefl _ (h.slt _ _ hs)
    obtain ⟨B', hB'⟩ : ∃ B', (⟨newVer st.boxes M, mapE ei.size ki.agg ei.agg, [ki.zero.map Zc.cell], false, false⟩ : Box) = B' := ⟨_, rfl⟩
    have hv : B'.ver = newVer st.boxes M := by rw [← hB']
    have hver := newVer_hver (bx := st.boxes) (nm := M) (b' := B') (X := fun b => B'.e = b.e ∧ B'.row = b.row ∧ some (w.heap.size, 1) = bm M) hv
    have hs := h.box1 (S' := S) (w' := w.alloc (.map #[] 0)) M B' w.heap.size 1 hver (.inl (Nat.le_refl _)) ⟨hal.os, hal.tape, hal.output, by omega⟩ (fun b hb _ => hal.block b hb) (fun _ _ h => h) (fun o hs => absurd hs (hS0 o)) (fun _ _ h => .inl h) hsz (by
     refine ⟨fun hm => map_abs hMm hm, fun hf => (by rw [← hB'] at hf; simp at hf), ?_⟩
     simp only [if_true]
     exact ⟨.inl ⟨.inr hMm, h.base⟩, ⟨fun hm => map_abs hMm hm, fun _ => ⟨#[], 0, ki.zero.map Zc.cell, [], hnew, by rw [← hB'], zero_pure _, by rw [← hB'], .nil⟩⟩, fun hm => map_abs hMm hm, by unfold maxLen; omega, fun o hs => absurd hs (hS0 o), fun hf => (by rw [← hB'] at hf; simp at hf), fun _ => rfl⟩)
    refine wp_value hrun ⟨S, (fun m => if m = M then some (w.heap.size, 1) else bm m), ?_⟩
    rw [hd]
    have := hs.put d (p := .one (.mp M (newVer st.boxes M))) (v := .map (some w.heap.size)) (.base (.one (.mp _ _ _ hMm ⟨B', getB_self, by rw [hv]; exact Nat.le_refl _, fun _ => ⟨1, by simp⟩⟩)))
    simp only [Upd.app, setAll, setBs, hB']
    exact this
   ·simp at hu
  ·simp at hu
 ·simp at hu
theorem TSpec.map {t : TypeId} {i : TI} (h : TSpec P t i) {k e : TypeId} (hk : i.kind = .map k e) : P.underlying t = some (.map k e) := by
 obtain ⟨info, d, z, h1, h2, h3, h4, h5, h6, h7⟩ := h.ex
 rw [hk] at h5
 cases d <;> simp [tkind] at h5
 obtain ⟨rfl, rfl⟩ := h5; exact h2
/-- the map that a cell shows -/
theorem map_at (h : SimX G B ks w0 S0 S bm st a w) {nm ver : Nat} {b : Box} {v : Value} {hd : List Cell} {ls : List (List Cell)} (hc : RepM S w bm st.boxes (.mp nm ver) v) (hb : getB st.boxes nm = some b) (hver : b.ver = ver) (hels : b.els = hd :: ls) :
  ∃ k C es clock, v = .map (some k) ∧ isMap nm = true ∧ bm nm = some (k, C) ∧ w.heap[k]? = some (.map es clock) ∧ b.frz = false ∧ BoxIn S w bm st.boxes B ks nm k C b ∧ pureL hd = true ∧ All2 (EntOk S w b.e hd) ls es.toList := by
 cases hc with
 | pure hc => cases hc
 | mp _ _ k hm hr =>
  obtain ⟨b', q1, q2, q3⟩ := hr
  rw [hb] at q1
  injection q1 with q1
  subst q1
  obtain ⟨C, hbm⟩ := q3 hver
  obtain ⟨_, _, hB⟩ := h.boxes nm b hb
  rw [hbm] at hB
  obtain ⟨es, clock, hd', ls', g1, g2, g3, g4, g5⟩ := hB.blk0.2 hm
  rw [hels] at g2
  injection g2 with g2 g6
  subst g2 g6
  exact ⟨k, C, es, clock, rfl, hm, hbm, g1, g4, hB, g3, g5⟩
theorem flag_key {s : Nat} {x y : Bool} {e : Nat} (h : e = mapE s x y) : (e / 2 % 2 == 1) = x ∧ (e % 2 == 1) = y ∧ e / 4 = s := by
 subst h
 unfold mapE
 cases x <;> cases y <;> (refine ⟨?_, ?_, ?_⟩ <;> simp <;> omega)
theorem lookup_ok (htt : ∀ t i, tt t = some i → tinfo P t = some i) (h : SimX G B ks w0 S0 S bm st a w) {t : TypeId} {x y : Operand} {ok : Bool} {u : Upd} (ho : o.op = .lookup t x y ok) (hu : eff tt T G o st.get st.boxes = some u) : o.wp P a w (Sim G B ks w0 S0 (u.app st)) Q := by
 unfold eff at hu
 rw [ho] at hu
 simp only at hu
 split at hu
 ·rename_i i nm ver pk hi hx hy
  split at hu
  ·rename_i kt et b kc hk hb hkc
   split at hu
   ·rename_i ki ei hd ls hki hei hels
    split at hu
    case isFalse => simp at hu
    rename_i hc
    obtain ⟨hver, hmap, hkey, he, hkk, hhl, hsh, hzl⟩ := hc
    obtain ⟨k, C, es, clock, hvx, _, hbm, hheap, _, hB, hph, hents⟩ := map_at h (h.evalC hx) hb hver hels
    obtain ⟨kx, s1, s2⟩ := shape_vals (h.eval hy) hsh hkc
    obtain ⟨f1, f2, f3⟩ := flag_key he
    have K : KeyOk P S w kt ki b.e hd kc (a.eval y) kx ls es.toList := ⟨tinfo_spec (htt _ _ hki), hkey, s1, all2_pure s2 (kKind_pure hkk), hkk, hhl, f1, hents⟩
    have hck := checkKey_ok K es.isEmpty
    have hfk := findKey_ok K
    have hut := (tinfo_spec (htt _ _ hi)).map hk
    have hte := tinfo_spec (htt _ _ hei)
    -- the value
    have hval : ∃ v vx, (Instr.lookup t (.map (some k)) (a.eval y) ok).run P w = .ok (if ok then .tuple #[v, .bool (getM ki.size kc ls).isSome] else v) w ∧ Shaped ei.agg v vx ∧ RepL S w ((getM ki.size kc ls).getD (nnL (ei.zero.map Zc.cell))) vx := by
     cases hh : hitM ki.size kc ls es.toList 0 with
     | none =>
      rw [hh] at hfk
      obtain ⟨g1, _⟩ := hit_none (vs := []) hents hh
      obtain ⟨z, zx, z1, z2, z3⟩ := hte.zeroA w
      refine ⟨z, zx, by simp [Instr.lookup, run_underlying hut, MapKept.run_getObj_map hheap, hck, hfk, z1, Result.andThen, g1], z2, ?_⟩
      rw [g1, z3]
      exact nnL_rep0 (zero_rep S w _)
     | some jv =>
      obtain ⟨j, v⟩ := jv
      rw [hh] at hfk
      obtain ⟨q, l, e, rfl, g1, g2, g3, g4, g5, _⟩ := hit_some (vs := []) hents hh
      subst g3
      obtain ⟨e', g6, ekx, evx, e1, e2, e3, e4, e5, e6⟩ := hents.get g1
      rw [g2] at g6
      injection g6 with g6
      subst g6
      rw [f2] at e2
      refine ⟨e.val, evx, by simp [Instr.lookup, run_underlying hut, MapKept.run_getObj_map hheap, hck, hfk, Result.andThen, g5], e2, ?_⟩
      rw [g5]
      simp only [Option.getD_some]
      have := All2.drop e3 ki.size
      rw [← hhl, ← e5, List.drop_left] at this
      rw [← hhl, ← e5]
      exact this
    obtain ⟨v, vx, hv1, hv2, hv3⟩ := hval
    rw [← hvx] at hv1
    have hrun : (execOp a.eval o).run P w = .ok (.value (if ok then .tuple #[v, .bool (getM ki.size kc ls).isSome] else v)) w := by
     simp [execOp, ho, hv1]
    split at hu <;> simp only [Option.some.injEq, reduceCtorEq] at hu
    rename_i p hp
    subst hu
    have hpr : RepB S w bm st.boxes p v := by
     cases hag : ei.agg with
     | true =>
      rw [hag] at hp hv2
      simp only [if_true, Option.some.injEq] at hp
      subst hp
      simp only [Shaped, if_true] at hv2
      subst hv2
      exact .agg (RepL.toM hv3)
     | false =>
      rw [hag] at hp hv2
      simp only [Bool.false_eq_true, if_false] at hp
      simp only [Shaped, Bool.false_eq_true, if_false] at hv2
      subst hv2
      split at hp <;> simp only [Option.some.injEq, reduceCtorEq] at hp
      rename_i c hcc
      subst hp
      rw [hcc] at hv3
      cases hv3 with
      | cons hv3 _ => exact .one (.pure hv3)
    refine wp_value hrun ⟨S, bm, h.putDst o.dst ?_⟩
    cases ok with
    | false => exact .base hpr
    | true =>
     have := RepV.tup (S := S) (w := w) (bm := bm) (bx := st.boxes) (All2.cons hpr (.cons (.one (.pure (.v (.bool (getM ki.size kc ls).isSome) rfl (by simp)))) .nil))
     simpa using this
   ·simp at hu
  ·simp at hu
 ·simp at hu

theorem lenM_ok (htt : ∀ t i, tt t = some i → tinfo P t = some i) (h : SimX G B ks w0 S0 S bm st a w) {t : TypeId} {x : Operand} {nm ver : Nat} {b : Box} {i : TI} {hd : List Cell} {ls : List (List Cell)} {k e : TypeId} (ho : o.op = .call { callee := .builtin .len, args := #[x], argTypes := #[t] })
  (hx : rd G st.get x = some (.one (.mp nm ver))) (hb : getB st.boxes nm = some b) (hi : tt t = some i) (hels : b.els = hd :: ls) (hk : i.kind = .map k e) (hver : b.ver = ver) : o.wp P a w (Sim G B ks w0 S0 (Upd.app ⟨putD o.dst (.one (.v (.int .i64 ls.length))), [], [nm]⟩ st)) Q := by
 obtain ⟨k', C, es, clock, hvx, _, hbm, hheap, _, hB, hph, hents⟩ := map_at h (h.evalC hx) hb hver hels
 have hut := (tinfo_spec (htt _ _ hi)).map hk
 have hl : ls.length = es.size := by rw [hents.length]; simp
 have hrun : (execOp a.eval o).run P w = .ok (.value (.int .i64 ls.length)) w := by
  simp only [execOp, ho, resolve, Sem.run_bind, Sem.run_pure, Result.andThen_ok, invoke, builtin]
  simp [Builtin.len_, run_underlying hut, hvx, MapKept.run_getObj_map hheap, goInt, hl]
 exact wp_value hrun ⟨S, bm, h.putDst o.dst (.base (.one (.pure (.v _ rfl (by simp)))))⟩
theorem heap_set {k : Nat} {x : Obj} (y : Obj) (h : w.heap[k]? = some x) : ({ w with heap := w.heap.setIfInBounds k y } : World).heap[k]? = some y ∧ ∀ b, b ≠ k → ({ w with heap := w.heap.setIfInBounds k y } : World).heap[b]? = w.heap[b]? := by
 have hk := heap_lt h
 refine ⟨by simp [hk], fun b hb => ?_⟩
 simp [Ne.symm hb]
theorem sameBits_ok {kt : TypeId} {ki : TI} {e : Nat} {h kc : List Cell} {v : Value} {kx : List Value} {ls : List (List Cell)} {es : List MapEntry} (K : KeyOk P S w kt ki e h kc v kx ls es) : (Instr.keyThatStays v v).run P w = .ok v w := by
 have hs : Instr.sameBits 10000 v v = true := by
  have hkey := K.key
  unfold keyTy at hkey
  have hsh := K.shape
  split at hkey
  ·simp only [Bool.and_eq_true] at hkey
   have ha : ki.agg = false := by simpa using hkey.2
   rw [ha] at hsh
   simp only [Shaped, Bool.false_eq_true, if_false] at hsh
   subst hsh
   have hrep := K.rep
   have h1 := hkey.1
   unfold isStr1 at h1
   split at h1
   ·cases hrep with
    | cons hr _ => cases hr; simp [Instr.sameBits, MapKept.bytes_beq]
   ·simp at h1
  ·simp only [Bool.and_eq_true] at hkey
   have hints := ints_vals hkey.2 K.rep
   cases ha : ki.agg with
   | true =>
    rw [ha] at hsh
    simp only [Shaped, if_true] at hsh
    subst hsh
    have := sameBits_flat 9999 kx hints
    rw [show (10000 : Nat) = 9999 + 1 from rfl]
    simp only [Instr.sameBits, beq_self_eq_true, Bool.true_and]
    exact this
   | false =>
    rw [ha] at hsh
    simp only [Shaped, Bool.false_eq_true, if_false] at hsh
    subst hsh
    obtain ⟨k, n, rfl⟩ := hints v (by simp)
    simp [Instr.sameBits]
 simp [Instr.keyThatStays, hs]
theorem mapUpdate_ok (htt : ∀ t i, tt t = some i → tinfo P t = some i) (h : SimX G B ks w0 S0 S bm st a w) {t : TypeId} {x y z : Operand} {u : Upd} (ho : o.op = .mapUpdate t x y z) (hu : eff tt T G o st.get st.boxes = some u) : o.wp P a w (Sim G B ks w0 S0 (u.app st)) Q := by
 unfold eff at hu
 rw [ho] at hu
 simp only at hu
 split at hu
 ·rename_i i nm ver pk pv hi hx hy hz
  split at hu
  ·rename_i kt et b kc vc hk hb hkc hvc
   split at hu
   ·rename_i ki ei hd ls us hki hei hels hus
    split at hu <;> simp only [Option.some.injEq, reduceCtorEq] at hu
    rename_i hc
    obtain ⟨hdst, hver, hmap, hkey, he, hkk, hhl, hsh, hshv, hvl, hfo, hfz⟩ := hc
    subst hu
    have hnn : nm ∉ nmL vc := fun hm => by
     simp only [frzOk, List.all_eq_true, decide_eq_true_eq] at hfo
     have := hfo nm hm
     simp [isMap] at hmap
     omega
    obtain ⟨kx, s1, s2⟩ := shape_vals (h.eval hy) hsh hkc
    obtain ⟨vx, t1, t2⟩ := shape_vals (h.eval hz) hshv hvc
    obtain ⟨f1, f2, f3⟩ := flag_key he
    have hvx0 := h.evalC hx
    have hF := SimX.freeze (nmL vc) h (viewL_box hus) hfo
    have hvl2 := nnL_rep0 (viewL_ok h t2 hus (l := nmL vc) (fun _ h => h))
    have hb' : getB (setBs st.boxes (frzL st.boxes (nmL vc))) nm = some b := by rw [getB_frz hnn]; exact hb
    have hslot := hF.evalC (x := x) hx
    generalize hS' : orS S (Lent bm st.boxes (nmL vc)) = S' at hF hvl2 hslot
    obtain ⟨k, C, es, clock, hvx, _, hbm, hheap, _, hB, hph, hents⟩ := map_at hF hslot hb' hver hels
    have hrepk : RepL S' w kc kx := by
     rw [← hS']
     exact All2.mono (all2_pure s2 (kKind_pure hkk)) fun _ _ h => h.mono (fun _ _ h => .inl h) (fun _ _ _ => rfl)
    have K : KeyOk P S' w kt ki b.e hd kc (a.eval y) kx ls es.toList := ⟨tinfo_spec (htt _ _ hki), hkey, s1, hrepk, hkk, hhl, f1, hents⟩
    have hck := checkKey_ok K false
    have hfk := findKey_ok K
    have hut := (tinfo_spec (htt _ _ hi)).map hk
    have hkl := kKind_len hkk
    have hul : (nnL us).length = vc.length := by rw [nnL_len0]; exact (viewL_pure hus).2
    have hent : ∀ born, EntOk S' w b.e hd (kc ++ nnL us) ⟨a.eval y, a.eval z, born⟩ := fun born => by
     refine ⟨kx, vx, ?_, ?_, hrepk.append hvl2, ?_, ?_, ?_⟩
     ·rw [f1]; exact s1
     ·rw [f2]; exact t1
     ·rw [← hkl, List.take_left]; exact hkk
     ·rw [← hrepk.length, hkl]
     ·rw [f3, ← hvl2.length, hul, hvl]
    -- the world behind
    have key : ∃ es' clock', (Instr.mapUpdate t (.map (some k)) (a.eval y) (a.eval z)).run P w = .ok () { w with heap := w.heap.setIfInBounds k (.map es' clock') } ∧ All2 (EntOk S' w b.e hd) (putM ki.size kc (nnL us) ls) es'.toList := by
     cases hh : hitM ki.size kc ls es.toList 0 with
     | none =>
      rw [hh] at hfk
      obtain ⟨_, g2⟩ := hit_none (vs := nnL us) hents hh
      refine ⟨es.push ⟨a.eval y, a.eval z, clock⟩, clock + 1, by simp [Instr.mapUpdate, run_underlying hut, MapKept.run_getObj_map hheap, hck, hfk, MapKept.run_setObj_map _ hheap, Result.andThen], ?_⟩
      rw [g2]
      simp only [Array.toList_push]
      exact hents.append (.cons (hent clock) .nil)
     | some jv =>
      obtain ⟨j, v⟩ := jv
      rw [hh] at hfk
      obtain ⟨q, l, e, hj, g1, g2, g3, g4, _, g6⟩ := hit_some (vs := nnL us) hents hh
      have hjq : j = q := by omega
      subst hjq
      have hj' : es[j]? = some e := by simpa using g2
      -- the key is the same
      obtain ⟨e', g7, ekx, evx, e1, e2, e3, e4, e5, e6⟩ := hents.get g1
      rw [g2] at g7
      injection g7 with g7
      subst g7
      have hsame : e.key = a.eval y := by
       have hr : RepL S' w (l.take hd.length) ekx := by
        have := All2.take e3 hd.length
        rw [← e5, List.take_left] at this
        rw [e5] at this
        exact this
       rw [f1] at e1
       rw [← hhl] at g4
       have hkx : kx = ekx := by
        have hkey' := hkey
        unfold keyTy at hkey'
        split at hkey'
        ·simp only [Bool.and_eq_true] at hkey'
         have h1 := hkey'.1
         unfold isStr1 at h1
         split at h1
         ·rename_i s
          cases hrepk with
          | cons hr1 hr2 =>
           cases hr2
           cases hr1
           match hl2 : l.take hd.length, hr, g4 with
           | [], _, g4 => simp [kEq] at g4
           | [c], hr, g4 =>
            cases hr with
            | cons hr _ =>
             rename_i hr'
             cases hr'
             cases c with
             | v cv => cases cv with
              | string s' =>
               cases hr
               simp only [kEq, kEq1, Bool.and_true] at g4
               rw [(MapKept.bytes_beq _ _).1 g4]
              | _ => simp [kEq, kEq1] at g4
             | _ => simp [kEq, kEq1] at g4
           | c :: c' :: l', _, g4 => simp [kEq] at g4
         ·simp at h1
        ·simp only [Bool.and_eq_true] at hkey'
         have := kEq_int hkk e4 hkey'.2 hrepk hr
         rw [g4] at this
         exact valsEq_true this
       subst hkx
       rw [shaped_mk K.ty e1, shaped_mk K.ty s1]
      have hst := sameBits_ok K
      refine ⟨es.modify j fun e => { e with key := a.eval y, val := a.eval z }, clock, by simp [Instr.mapUpdate, run_underlying hut, MapKept.run_getObj_map hheap, hck, hfk, hj', hsame, hst, MapKept.run_setObj_map _ hheap, Result.andThen], ?_⟩
      rw [g6]
      refine All2.of_get (by simp [hents.length]) fun q l' x' hl' hx' => ?_
      have hjl := getElem_pos g1
      simp only [List.getElem?_set] at hl'
      simp only [Array.getElem?_toList, Array.getElem?_modify] at hx'
      by_cases hjq : j = q
      ·subst hjq
       simp only [if_true, hjl] at hl'
       injection hl' with hl'
       subst hl'
       simp [hj'] at hx'
       subst hx'
       exact hent _
      ·simp only [hjq, if_false] at hl' hx'
       obtain ⟨x2, h3, h4⟩ := hents.get hl'
       have : x2 = x' := by
        have h5 : es[q]? = some x2 := by simpa using h3
        rw [h5] at hx'
        injection hx'
       subst this
       exact h4
    obtain ⟨es', clock', hrun0, hents'⟩ := key
    have hrun : (execOp a.eval o).run P w = .ok .skip { w with heap := w.heap.setIfInBounds k (.map es' clock') } := by
     simp only [execOp, ho, hvx]
     simp [hrun0]
    obtain ⟨hset1, hset2⟩ := heap_set (.map es' clock') hheap
    have hS0 : ∀ o, ¬ S' k o := fun o hs => by have := (hB.free o hs).1; rw [hfz] at this; simp at this
    have hcell : ∀ b' o, S' b' o → ({ w with heap := w.heap.setIfInBounds k (.map es' clock') } : World).cell? ⟨b', o, none⟩ = w.cell? ⟨b', o, none⟩ := fun b' o hs => by
     have : b' ≠ k := by rintro rfl; exact hS0 o hs
     exact World.cell?_of_block (a := ⟨b', o, none⟩) (hset2 b' this)
    have hs := hF.box1 (S' := S') (w' := { w with heap := w.heap.setIfInBounds k (.map es' clock') }) nm { b with els := hd :: putM ki.size kc (nnL us) ls } k C (fun b0 hb0 => by rw [hb'] at hb0; injection hb0 with hb0; subst hb0; exact ⟨Nat.le_refl _, fun _ => ⟨rfl, rfl, hbm.symm⟩⟩) (.inr ⟨C, b, hbm, hb'⟩)
     ⟨rfl, rfl, rfl, by simp⟩ (fun b' _ hb' => hset2 b' hb') (fun _ _ h => h) (fun o hs => absurd hs (hS0 o)) (fun _ _ h => .inl h) (heap_lt hset1) (by
      refine ⟨fun hm => map_abs hmap hm, fun hf' => (by simp only at hf'; rw [hfz] at hf'; simp at hf'), ?_⟩
      simp only [if_true]
      exact ⟨hB.base, ⟨fun hm => map_abs hmap hm, fun _ => ⟨es', clock', hd, _, hset1, rfl, hph, hfz, All2.mono hents' fun _ _ h => h.mono (fun _ _ h => h) hcell⟩⟩, fun hm => map_abs hmap hm, hB.cap, fun o hs => absurd hs (hS0 o), fun hf' => (by simp only at hf'; rw [hfz] at hf'; simp at hf'), hB.one⟩)
    have hbm' : (fun m => if m = nm then some (k, C) else bm m) = bm := by
     funext m
     by_cases hm : m = nm
     ·subst hm; simp [hbm]
     ·simp [hm]
    rw [hbm'] at hs
    refine wp_skip' hrun ⟨S', bm, ?_⟩
    rw [hdst]
    simp only [Upd.app, setAll, setBs_append, setBs, Act.put]
    exact hs
   ·simp at hu
  ·simp at hu
 ·simp at hu
theorem flat_ones : ∀ ns : List Int, (ns.map (fun n => [Cell.v (.int .u8 n)])).flatten = ns.map (fun n => Cell.v (.int .u8 n))
 | [] => rfl
 | n :: ns => by simp [flat_ones ns]
theorem bytesL_spec : ∀ {els : List (List Cell)} {bs : List UInt8}, bytesL els = some bs → ∃ ns : List Int, els = ns.map (fun n => [Cell.v (.int .u8 n)]) ∧ bs = ns.map fun n => UInt8.ofNat n.toNat
 | [], bs, h => by simp [bytesL] at h; subst h; exact ⟨[], rfl, rfl⟩
 | l :: els, bs, h => by
  simp only [bytesL] at h
  split at h <;> simp at h
  rename_i b bs' h1 h2
  subst h
  obtain ⟨ns, rfl, rfl⟩ := bytesL_spec h2
  unfold byteOf at h1
  split at h1 <;> simp at h1
  rename_i n
  exact ⟨n :: ns, rfl, by simp [h1]⟩
theorem conv_ok (htt : ∀ t i, tt t = some i → tinfo P t = some i) (h : SimX G B ks w0 S0 S bm st a w) {src dst : TypeId} {x : Operand} {u : Upd} (ho : o.op = .convert src dst x) (hu : eff tt T G o st.get st.boxes = some u) : o.wp P a w (Sim G B ks w0 S0 (u.app st)) Q := by
 unfold eff at hu
 rw [ho] at hu
 simp only at hu
 split at hu
 ·rename_i i j c hi hj hx
  have hsi := tinfo_spec (htt _ _ hi)
  have hsj := tinfo_spec (htt _ _ hj)
  split at hu
  ·rename_i e hk hk2
   split at hu
   ·rename_i ej els hej hels
    split at hu
    case isFalse => simp at hu
    rename_i hc
    split at hu <;> simp only [Option.some.injEq, reduceCtorEq] at hu
    rename_i s hs
    subst hu
    have hus := hsi.slice hk
    have hud := hsj.str hk2
    have hue := (tinfo_spec (htt _ _ hej)).int hc.2
    unfold bytesOf at hs
    split at hs <;> simp only [Option.some.injEq, reduceCtorEq] at hs
    rename_i bs hbs
    obtain ⟨ns, rfl, rfl⟩ := bytesL_spec hbs
    unfold elsOf at hels
    split at hels <;> simp only [Option.some.injEq, reduceCtorEq] at hels
    rename_i ow els' hview
    subst hels
    obtain ⟨xa, cc, hv, hle, hrow⟩ := view_row h (h.evalC hx) hview
    have hrun0 : (convert src dst (a.eval x)).run P w = .ok (.string s) w := by
     rw [hv]
     rcases Classical.em (ns = []) with hn | hn
     ·subst hn
      rw [run_convert_bytes_string w src dst e xa _ cc hus hue hud, ← hs]
      cases xa <;> simp [Conv.bytesToString, loadCells, loadCellsFrom] <;> rfl
     ·obtain ⟨b2, o2, e2, row, rfl, _, g2, g3⟩ := hrow (by simpa using hn)
      have hflat : (ns.map (fun n => [Cell.v (.int .u8 n)])).flatten = ns.map (fun n => Cell.v (.int .u8 n)) := flat_ones ns
      rw [hflat] at g2
      have := run_convert_bytes_arg (P := P) w src e hus hue b2 o2 (ns.map (fun n => [Cell.v (.int .u8 n)])).length cc ns (by simp) (fun q hq => by
       have hql : q < ns.length := by simpa using hq
       obtain ⟨v, h1, h2⟩ := g2.get (i := q) (a := .v (.int .u8 ns[q])) (by simp [hql])
       cases h2
       rw [g3 q _ h1]
       simp [List.getD, hql]) dst hud
      rw [this, ← hs]
      rfl
    have hrun : (execOp a.eval o).run P w = .ok (.value (.string s)) w := by
     simp [execOp, ho, hrun0]
    exact wp_value hrun ⟨S, bm, h.putDst o.dst (.base (.one (.pure (.v _ rfl (by simp)))))⟩
   ·simp at hu
  ·rename_i e hk hk2
   split at hu
   ·rename_i s ej hej
    split at hu <;> simp only [Option.some.injEq, reduceCtorEq] at hu
    rename_i hc
    subst hu
    have hus := hsi.str hk
    have hud := hsj.slice hk2
    have hue := (tinfo_spec (htt _ _ hej)).int hc.2.1
    have hv := h.evalV hx
    have hrun0 := Lib.run_convert_string_bytes (P := P) w src dst e s hus hud hue
    have hrun : (execOp a.eval o).run P w = .ok (.value (.slice (some ⟨w.heap.size, 0, none⟩) s.size (grownCap w s.size 0 e))) (Lib.bytesWorld w e s) := by
     simp [execOp, ho, hv, hrun0]
    have hsz := Lib.bytesWorld_size w e s
    have hold : ∀ b o, S b o → (Lib.bytesWorld w e s).cell? ⟨b, o, none⟩ = w.cell? ⟨b, o, none⟩ := fun b o hs => Lib.bytesWorld_old w e s _ (h.slt _ _ hs)
    have hs := h.change (S' := fun b o => S b o ∨ (b = w.heap.size ∧ o < s.size)) (w' := Lib.bytesWorld w e s) (bm' := bm) (bx' := st.boxes) RefsLe.refl (fun _ _ h => .inl h) hold
     ⟨rfl, rfl, rfl, by omega, fun b hb _ => Lib.bytesWorld_at_old w e s b (Nat.lt_of_lt_of_le hb h.base)⟩ (fun b o hs => hs.imp id fun hs => by rw [hs.1]; exact h.base) (fun b o hs => by
      rcases hs with hs | hs
      ·have := h.slt _ _ hs; omega
      ·omega) (fun nm b hb => .inl ⟨hb, rfl, fun k C hbm => ⟨Lib.bytesWorld_at_old w e s k ((h.boxes nm b hb).lt hbm), fun o hs => hs.resolve_right fun hs => by have := (h.boxes nm b hb).lt hbm; omega⟩⟩) h.inj
    refine wp_value hrun ⟨_, bm, hs.putDst o.dst (.base (.one (.pure ?_)))⟩
    have hlen : (s.data.toList.map fun b => [Cell.v (.int .u8 b.toNat)]).length = s.size := by simp
    have hm : s.size ≤ maxLen := by unfold maxLen; omega
    have := RepC.slice (S := fun b o => S b o ∨ (b = w.heap.size ∧ o < s.size)) (w := Lib.bytesWorld w e s) (s.data.toList.map fun b => [Cell.v (.int .u8 b.toNat)]) (some ⟨w.heap.size, 0, none⟩) (grownCap w s.size 0 e) 1 w.heap.size 0 (fun i _ => .int .u8 (s.data.toList.getD i 0).toNat)
     (by rw [hlen]; exact grown_le w _ _ _) (grownCap_le_maxLen w _ _ _ hm) (by simp) (by omega) (fun _ => rfl) (fun q l hl j hj => by
      have hq := getElem_pos hl
      rw [hlen] at hq
      obtain rfl : j = 0 := by omega
      refine ⟨.inr ⟨rfl, by omega⟩, ?_⟩
      rw [show 0 + q * 1 + 0 = q by omega]
      exact Lib.bytesWorld_cell w e s q hq) (fun q l hl j y hy => by
      have hq := getElem_pos hl
      rw [hlen] at hq
      have hql : q < s.data.toList.length := by simpa using hq
      rw [List.getElem?_map, List.getElem?_eq_getElem hql] at hl
      simp only [Option.map_some, Option.some.injEq] at hl
      subst hl
      cases j with
      | zero =>
       simp only [List.getElem?_cons_zero, Option.some.injEq] at hy
       subst hy
       have : s.data.toList.getD q 0 = s.data.toList[q] := by rw [List.getD_eq_getElem?_getD, List.getElem?_eq_getElem hql]; rfl
       rw [this]
       exact .v _ rfl (by simp)
      | succ j => simp at hy)
    rw [hlen] at this
    exact this
   ·simp at hu
  ·split at hu <;> simp only [Option.some.injEq, reduceCtorEq] at hu
   rename_i p hp
   subst hu
   obtain ⟨v, h1, h2⟩ := pureOp_ok (o := o) htt h (by rw [ho]; exact hp)
   exact wp_value h1 ⟨S, bm, h.putDst o.dst h2⟩
 ·simp at hu
end
end Go.Av
end
section
namespace Go.Av
open Go.RowKit
set_option linter.unusedVariables false

/-- a new row or variable that nobody else has -/
structure OwnIn (S : Nat → Nat → Prop) (w : World) (base k C e : Nat) (els : List (List Cell)) : Prop where
 new : base ≤ k
 blk : ∃ arr T, w.heap[k]? = some (.cells arr T (0, 0)) ∧ C * e ≤ arr.size ∧ ∀ (i : Nat) c v, els.flatten[i]? = some c → arr[i]? = some v → RepC S w c v
 room : els.length ≤ C
 cap : C ≤ maxLen
 len : ∀ l ∈ els, l.length = e
 free : ∀ o, ¬ S k o
/-- block and room, size of an element, elements, row or variable -/
abbrev Item := Option (Nat × Nat) × Nat × List (List Cell) × Bool
inductive RepR (S : Nat → Nat → Prop) (w : World) (base : Nat) : List Item → Cell → Value → Prop
 | pure {c v} : RepC S w c v → RepR S w base [] c v
 | none (e : Nat) (x : Option Addr) : RepR S w base [(none, e, [], true)] (.own e []) (.slice x 0 0)
 | own (e : Nat) (els : List (List Cell)) (k C : Nat) : OwnIn S w base k C e els → RepR S w base [(some (k, C), e, els, true)] (.own e els) (.slice (some ⟨k, 0, Option.none⟩) els.length C)
inductive RepRL (S : Nat → Nat → Prop) (w : World) (base : Nat) : List Item → List Cell → List Value → Prop
 | nil : RepRL S w base [] [] []
 | cons {i j c v cs vs} : RepR S w base i c v → RepRL S w base j cs vs → RepRL S w base (i ++ j) (c :: cs) (v :: vs)
inductive RepRP (S : Nat → Nat → Prop) (w : World) (base : Nat) : List Item → PV → Value → Prop
 | one {i c v} : RepR S w base i c v → RepRP S w base i (.one c) v
 | agg {i cs vs} : RepRL S w base i cs vs → RepRP S w base i (.agg cs) (.agg vs.toArray)
 | io (cs : List Cell) (k : Nat) : OwnIn S w base k 1 cs.length [cs] → RepRP S w base [(some (k, 1), cs.length, [cs], false)] (.io cs) (.pointer (some ⟨k, 0, Option.none⟩))
inductive RepRT (S : Nat → Nat → Prop) (w : World) (base : Nat) : List Item → List PV → List Value → Prop
 | nil : RepRT S w base [] [] []
 | cons {i j p v ps vs} : RepRP S w base i p v → RepRT S w base j ps vs → RepRT S w base (i ++ j) (p :: ps) (v :: vs)
inductive RepRR (S : Nat → Nat → Prop) (w : World) (base : Nat) : List Item → PV → Value → Prop
 | base {i p v} : RepRP S w base i p v → RepRR S w base i p v
 | tup {i ps vs} : RepRT S w base i ps vs → RepRR S w base i (.tup ps) (.tuple vs.toArray)
def blksOf (l : List Item) : List Nat := l.filterMap fun i => i.1.map (·.1)

/-- what a closure has captured, as an argument -/
inductive Cap1 (S : Nat → Nat → Prop) (w : World) : PV → Value → Prop
 | one {c v} : RepC S w c v → Cap1 S w (.one c) v
 | agg {cs us} : RepL S w cs us → Cap1 S w (.agg cs) (.agg us.toArray)
 | ref {cs} (b o : Nat) (us : List Value) : RepL S w cs us → (∀ j, j < us.length → S b (o + j)) → Lies w b o us → Cap1 S w (.ref cs) (.pointer (some ⟨b, o, Option.none⟩))
 | fn (f : FuncId) : Cap1 S w (.fn f) (.func (.func f) #[] #[])
/-- the arguments of a call; ks: the blocks of the variables that they point to -/
inductive ArgsOk (S : Nat → Nat → Prop) (w : World) : List Nat → List PV → List Value → Prop
 | nil : ArgsOk S w [] [] []
 | one {ks c v ps vs} : RepC S w c v → ArgsOk S w ks ps vs → ArgsOk S w ks (.one c :: ps) (v :: vs)
 | agg {ks cs us ps vs} : RepL S w cs us → ArgsOk S w ks ps vs → ArgsOk S w ks (.agg cs :: ps) (.agg us.toArray :: vs)
 | fn {ks f ps vs} : ArgsOk S w ks ps vs → ArgsOk S w ks (.fn f :: ps) (.func (.func f) #[] #[] :: vs)
 | ref {ks cs ps vs} (b o : Nat) (us : List Value) : RepL S w cs us → (∀ j, j < us.length → S b (o + j)) → Lies w b o us → ArgsOk S w ks ps vs → ArgsOk S w ks (.ref cs :: ps) (.pointer (some ⟨b, o, none⟩) :: vs)
 | clo {ks f qs us ps vs} : All2 (Cap1 S w) qs us → ArgsOk S w ks ps vs → ArgsOk S w ks (.clo f qs :: ps) (.func (.func f) #[] us.toArray :: vs)
 | io {ks cs k ps vs} : (∃ arr T, w.heap[k]? = some (.cells arr T (0, 0)) ∧ cs.length ≤ arr.size ∧ ∀ (i : Nat) c v, cs[i]? = some c → arr[i]? = some v → RepC S w c v) → (∀ o, ¬ S k o) → ArgsOk S w ks ps vs →
   ArgsOk S w (k :: ks) (.io cs :: ps) (.pointer (some ⟨k, 0, none⟩) :: vs)
/-- the variables that were pointed to, behind the call -/
def IoOk (S : Nat → Nat → Prop) (w : World) : List Nat → List (List Cell) → Prop := All2 fun k cs => ∃ arr T, w.heap[k]? = some (.cells arr T (0, 0)) ∧ cs.length ≤ arr.size ∧ (∀ (i : Nat) c v, cs[i]? = some c → arr[i]? = some v → RepC S w c v) ∧ ∀ o, ¬ S k o
structure GrowK (S S' : Nat → Nat → Prop) (w w' : World) (ks : List Nat) : Prop where
 keep : Keeps w.heap.size ks w w'
 mono : ∀ b o, S b o → S' b o
 fresh : ∀ b o, S' b o → S b o ∨ w.heap.size ≤ b
 slt : ∀ b o, S' b o → b < w'.heap.size
/-- function f computes F -/
def Impl (P : Program) (G : Glob) (f : FuncId) (F : List PV → Option (PV × List (List Cell))) : Prop :=
 (∃ fn, P.funcs[f]? = some fn ∧ fn.body.isNone = false ∧ (fn.name == "runtime.NumGoroutine") = false) ∧
 ∀ (S : Nat → Nat → Prop) (w : World) (ks : List Nat) (ps : List PV) (vs : List Value) (r : PV) (outs : List (List Cell)), GlobOk G S w → (∀ b o, S b o → b < w.heap.size) → ArgsOk S w ks ps vs → ks.Nodup → F ps = some (r, outs) →
  Calls P f vs.toArray w fun e w' => ∃ v S' its, e = .returned v ∧ RepRR S' w' w.heap.size its r v ∧ (blksOf its).Nodup ∧ IoOk S' w' ks outs ∧ GrowK S S' w w' ks

section
variable {P : Program} {tt : TT} {T : Tab} {G : Glob} {B : Nat} {ks : List Nat} {w0 : World} {S0 S S' S2 : Nat → Nat → Prop} {bm bm' bm2 : BM} {bx bx2 : Boxes} {st st' : ASt} {a : Act} {w w' : World} {Q : Exit → Act → World → Prop} {o : Oper} {base : Nat}

theorem OwnIn.lt {k C e : Nat} {els : List (List Cell)} (h : OwnIn S w base k C e els) : k < w.heap.size := let ⟨_, _, h1, _⟩ := h.blk; heap_lt h1

/-- names and boxes of the new things -/
def upBm (bm : BM) : List (Nat × Box) → List Item → BM
 | (nm, _) :: bn, it :: its => fun m => if m = nm then it.1 else upBm bm bn its m
 | _, _ => bm
theorem upBm_not : ∀ {bn : List (Nat × Box)} {its : List Item} {m : Nat}, (∀ x ∈ bn, x.1 ≠ m) → upBm bm bn its m = bm m
 | [], _, m, _ => by simp [upBm]
 | _ :: _, [], m, _ => by simp [upBm]
 | (nm, b) :: bn, it :: its, m, h => by
  simp only [upBm]
  rw [if_neg (Ne.symm (h (nm, b) (by simp)))]
  exact upBm_not fun x hx => h x (by simp [hx])
def ItB (bx : Boxes) (it : Item) (nb : Nat × Box) : Prop := nb.2 = ⟨newVer bx nb.1, it.2.1, it.2.2.1, false, it.2.2.2⟩
theorem upBm_at : ∀ {bn : List (Nat × Box)} {its : List Item}, (bn.map (·.1)).Nodup → bn.length = its.length → All2 (fun (it : Item) (nb : Nat × Box) => upBm bm bn its nb.1 = it.1) its bn
 | [], [], _, _ => .nil
 | (nm, b) :: bn, it :: its, hn, hl => by
  simp only [List.map_cons, List.nodup_cons] at hn
  refine .cons (by simp [upBm]) ?_
  have := upBm_at hn.2 (by simpa using hl : bn.length = its.length)
  refine All2.of_get this.length fun i x y hx hy => ?_
  obtain ⟨y', h1, h2⟩ := this.get hx
  rw [hy] at h1
  injection h1 with h1
  subst h1
  simp only [upBm]
  rw [if_neg]
  ·exact h2
  ·rintro e
   exact hn.1 (e ▸ List.mem_map.2 ⟨y, List.mem_of_getElem? hy, rfl⟩)

theorem RepR.landed {its : List Item} {c : Cell} {v : Value} (h : RepR S' w' base its c v) {d k : Nat} {cs : List Cell} {r : List Cell × List (Nat × Box)} (hr : landL bx d k (c :: cs) = r) :
  ∃ c' b1, r.1 = c' :: (landL bx d (k + its.length) cs).1 ∧ r.2 = b1 ++ (landL bx d (k + its.length) cs).2 ∧ All2 (ItB bx) its b1 ∧
   ∀ {S2 : Nat → Nat → Prop} {bm2 : BM} {bx2 : Boxes}, (∀ c v, c = c' → RepC S' w' c v → RepC S2 w' c v) → All2 (fun (it : Item) (nb : Nat × Box) => bm2 nb.1 = it.1 ∧ getB bx2 nb.1 = some nb.2 ∧ isMap nb.1 = false) its b1 → RepM S2 w' bm2 bx2 c' v := by
 subst hr
 cases h with
 | pure h =>
  refine ⟨c, [], ?_, ?_, .nil, fun hc _ => .pure (hc c v rfl h)⟩
  all_goals (cases h <;> rfl)
 | none e x =>
  refine ⟨.ms (d + 100000 * k) (newVer bx (d + 100000 * k)) 0 0 e, [(d + 100000 * k, ⟨newVer bx (d + 100000 * k), e, [], false, true⟩)], rfl, rfl, .cons rfl .nil, fun _ hb => ?_⟩
  cases hb with
  | cons hb _ => exact ms_empty (b := ⟨newVer bx (d + 100000 * k), e, [], false, true⟩) hb.2.2 rfl rfl hb.1 hb.2.1
 | own e els kk C ho =>
  refine ⟨.ms (d + 100000 * k) (newVer bx (d + 100000 * k)) 0 els.length e, [(d + 100000 * k, ⟨newVer bx (d + 100000 * k), e, els, false, true⟩)], rfl, rfl, .cons rfl .nil, fun _ hb => ?_⟩
  cases hb with
  | cons hb _ => exact ms_new (v := undef) (b := ⟨newVer bx (d + 100000 * k), e, els, false, true⟩) hb.2.2 rfl rfl ho.room ho.cap hb.1 hb.2.1
theorem All2.append_inv {α β : Type} {R : α → β → Prop} : ∀ {l l' : List α} {m m' : List β}, All2 R (l ++ l') (m ++ m') → l.length = m.length → All2 R l m ∧ All2 R l' m'
 | [], l', [], m', h, _ => ⟨.nil, h⟩
 | x :: l, l', y :: m, m', h, hl => by
  cases h with
  | cons h1 h2 =>
   obtain ⟨i1, i2⟩ := All2.append_inv h2 (by simpa using hl)
   exact ⟨.cons h1 i1, i2⟩
theorem RepRL.landed {its : List Item} {cs : List Cell} {vs : List Value} (h : RepRL S' w' base its cs vs) : ∀ {d k : Nat}, 
  All2 (ItB bx) its (landL bx d k cs).2 ∧ ∀ {S2 : Nat → Nat → Prop} {bm2 : BM} {bx2 : Boxes}, (∀ c v, c ∈ (landL bx d k cs).1 → RepC S' w' c v → RepC S2 w' c v) → All2 (fun (it : Item) (nb : Nat × Box) => bm2 nb.1 = it.1 ∧ getB bx2 nb.1 = some nb.2 ∧ isMap nb.1 = false) its (landL bx d k cs).2 → All2 (RepM S2 w' bm2 bx2) (landL bx d k cs).1 vs := by
 induction h with
 | nil => intro d k; exact ⟨.nil, fun _ _ => .nil⟩
 | cons h _ ih =>
  rename_i i j c v cs vs _
  intro d k
  obtain ⟨c', b1, e1, e2, hi, hc⟩ := h.landed (bx := bx) (d := d) (k := k) (cs := cs) rfl
  obtain ⟨hj, hcs⟩ := ih (d := d) (k := k + i.length)
  rw [e1, e2]
  refine ⟨hi.append hj, fun hp hb => ?_⟩
  obtain ⟨hb1, hb2⟩ := All2.append_inv hb hi.length
  exact .cons (hc (fun c v hcc => hp c v (by simp [hcc])) hb1) (hcs (fun c v hcc => hp c v (by simp [hcc])) hb2)
theorem PV.hasSl_cells {p : PV} (hp : hasSlP p = false) : ∀ c, (p = .one c ∨ ∃ cs, p = .agg cs ∧ c ∈ cs) → c.hasSl = false := by
 rintro c (rfl | ⟨cs, rfl, hc⟩)
 ·exact hp
 ·simp only [hasSlP, hasSlL, List.any_eq_false] at hp
  exact Bool.eq_false_iff.2 (hp c hc)
theorem land_mem {d : Nat} : ∀ {cs : List Cell} {k : Nat} {c : Cell}, c ∈ (landL bx d k cs).1 → c ∈ cs ∨ c.pureB = false
 | [], k, c, h => by simp [landL] at h
 | x :: cs, k, c, h => by
  cases x with
  | own e els =>
   simp only [landL, List.mem_cons] at h
   rcases h with rfl | h
   ·exact .inr rfl
   ·rcases land_mem h with h | h
    ·exact .inl (by simp [h])
    ·exact .inr h
  | _ =>
   simp only [landL, List.mem_cons] at h
   rcases h with rfl | h
   ·exact .inl (by simp)
   ·rcases land_mem h with h | h
    ·exact .inl (by simp [h])
    ·exact .inr h
theorem RepRP.landed {its : List Item} {p : PV} {v : Value} (h : RepRP S' w' base its p v) {d k : Nat} {q : PV} {bs : List (Nat × Box)} {k' : Nat} (hq : landP bx d k p = some (q, bs, k')) :
  k' = k + its.length ∧ All2 (ItB bx) its bs ∧ ∀ {S2 : Nat → Nat → Prop} {bm2 : BM} {bx2 : Boxes}, (∀ c v, c.pureB = true → (hasSlP p = false → c.hasSl = false) → RepC S' w' c v → RepC S2 w' c v) → All2 (fun (it : Item) (nb : Nat × Box) => bm2 nb.1 = it.1 ∧ getB bx2 nb.1 = some nb.2 ∧ isMap nb.1 = false) its bs → RepB S2 w' bm2 bx2 q v := by
 cases h with
 | one h =>
  rename_i c
  obtain ⟨c', b1, e1, e2, hi, hc⟩ := h.landed (bx := bx) (d := d) (k := k) (cs := []) rfl
  simp only [landP] at hq
  split at hq <;> simp at hq
  rename_i c2 bs2 heq
  rw [heq] at e1 e2
  simp [landL] at e1 e2
  obtain ⟨rfl, rfl, rfl⟩ := hq
  subst e1 e2
  refine ⟨by rw [hi.length], hi, fun hp hb => .one (hc (fun c0 v0 hc0 hr => ?_) hb)⟩
  subst hc0
  have hpu := hr.pure
  have : c0 = c := by
   have hm : c0 ∈ (landL bx d k [c]).1 := by rw [heq]; simp
   rcases land_mem hm with h' | h'
   ·simpa using h'
   ·rw [hpu] at h'; cases h'
  subst this
  exact hp c0 v0 hpu (fun hs => hs) hr
 | agg h =>
  rename_i cs vs
  obtain ⟨hi, hc⟩ := h.landed (bx := bx) (d := d) (k := k)
  simp only [landP] at hq
  simp at hq
  obtain ⟨rfl, rfl, rfl⟩ := hq
  refine ⟨by rw [hi.length], hi, fun hp hb => .agg (hc (fun c0 v0 hc0 hr => ?_) hb)⟩
  have hpu := hr.pure
  refine hp c0 v0 hpu (fun hs => ?_) hr
  rcases land_mem hc0 with h' | h'
  ·exact PV.hasSl_cells hs c0 (.inr ⟨_, rfl, h'⟩)
  ·rw [hpu] at h'; cases h'
 | io cs kk ho =>
  simp only [landP] at hq
  simp at hq
  obtain ⟨rfl, rfl, rfl⟩ := hq
  refine ⟨rfl, .cons rfl .nil, fun {S2 bm2 bx2} hp hb => ?_⟩
  cases hb with
  | cons hb _ =>
   have := RepB.ptr (S := S2) (w := w') (bm := bm2) (bx := bx2) (d + 100000 * k) (newVer bx (d + 100000 * k)) 0 0 cs.length kk hb.2.2 ⟨_, hb.2.1, Nat.le_refl _, fun _ => ⟨.inl rfl, 1, hb.1⟩⟩
   simpa using this
theorem RepRT.landed {its : List Item} {ps : List PV} {vs : List Value} (h : RepRT S' w' base its ps vs) : ∀ {d k : Nat} {qs : List PV} {bs : List (Nat × Box)}, landPs bx d k ps = some (qs, bs) →
  All2 (ItB bx) its bs ∧ ∀ {S2 : Nat → Nat → Prop} {bm2 : BM} {bx2 : Boxes}, (∀ c v, c.pureB = true → (ps.any hasSlP = false → c.hasSl = false) → RepC S' w' c v → RepC S2 w' c v) → All2 (fun (it : Item) (nb : Nat × Box) => bm2 nb.1 = it.1 ∧ getB bx2 nb.1 = some nb.2 ∧ isMap nb.1 = false) its bs → All2 (RepB S2 w' bm2 bx2) qs vs := by
 induction h with
 | nil => intro d k qs bs hq; simp [landPs] at hq; obtain ⟨rfl, rfl⟩ := hq; exact ⟨.nil, fun _ _ => .nil⟩
 | cons h _ ih =>
  rename_i i j p v ps vs _
  intro d k qs bs hq
  simp only [landPs] at hq
  split at hq
  ·rename_i q b1 k' hq1
   split at hq <;> simp at hq
   rename_i qs2 b2 hq2
   obtain ⟨rfl, rfl⟩ := hq
   obtain ⟨_, hi, hc⟩ := h.landed hq1
   obtain ⟨hj, hcs⟩ := ih hq2
   refine ⟨hi.append hj, fun hp hb => ?_⟩
   obtain ⟨hb1, hb2⟩ := All2.append_inv hb hi.length
   exact .cons (hc (fun c v h1 h2 => hp c v h1 fun h3 => h2 (by simp at h3; exact h3.1)) hb1) (hcs (fun c v h1 h2 => hp c v h1 fun h3 => h2 (by simp only [List.any_cons, Bool.or_eq_false_iff] at h3; exact h3.2)) hb2)
  ·simp at hq
theorem RepRR.landed {its : List Item} {r : PV} {v : Value} (h : RepRR S' w' base its r v) {d : Nat} {q : PV} {bs : List (Nat × Box)} (hq : landR bx d r = some (q, bs)) :
  All2 (ItB bx) its bs ∧ ∀ {S2 : Nat → Nat → Prop} {bm2 : BM} {bx2 : Boxes}, (∀ c v, c.pureB = true → (hasSlR r = false → c.hasSl = false) → RepC S' w' c v → RepC S2 w' c v) → All2 (fun (it : Item) (nb : Nat × Box) => bm2 nb.1 = it.1 ∧ getB bx2 nb.1 = some nb.2 ∧ isMap nb.1 = false) its bs → RepV S2 w' bm2 bx2 q v := by
 cases h with
 | base h =>
  have hnt : ∀ ps, r ≠ .tup ps := by rintro ps rfl; cases h
  unfold landR at hq
  split at hq
  ·exact absurd rfl (hnt _)
  ·split at hq <;> simp at hq
   rename_i q' bs' k' hq1
   obtain ⟨rfl, rfl⟩ := hq
   obtain ⟨_, hi, hc⟩ := h.landed hq1
   refine ⟨hi, fun hp hb => .base (hc (fun c v h1 h2 => hp c v h1 fun h3 => h2 ?_) hb)⟩
   unfold hasSlR at h3
   split at h3
   ·exact absurd rfl (hnt _)
   ·exact h3
 | tup h =>
  simp only [landR] at hq
  split at hq <;> simp at hq
  rename_i qs bs' hq1
  obtain ⟨rfl, rfl⟩ := hq
  obtain ⟨hi, hc⟩ := h.landed hq1
  exact ⟨hi, fun hp hb => .tup (hc hp hb)⟩
theorem RepR.items {its : List Item} {c : Cell} {v : Value} (h : RepR S' w' base its c v) : ∀ it ∈ its, (it.1 = Option.none ∧ it.2.2.1 = [] ∧ it.2.2.2 = true) ∨ ∃ k C, it.1 = some (k, C) ∧ OwnIn S' w' base k C it.2.1 it.2.2.1 := by
 cases h with
 | pure h => simp
 | none e x => simp
 | own e els k C ho => intro it hit; simp at hit; subst hit; exact .inr ⟨k, C, rfl, ho⟩
theorem RepRL.items {its : List Item} {c : List Cell} {v : List Value} (h : RepRL S' w' base its c v) : ∀ it ∈ its, (it.1 = Option.none ∧ it.2.2.1 = [] ∧ it.2.2.2 = true) ∨ ∃ k C, it.1 = some (k, C) ∧ OwnIn S' w' base k C it.2.1 it.2.2.1 := by
 induction h with
 | nil => simp
 | cons h _ ih => intro it hit; rcases List.mem_append.1 hit with h' | h'; exact h.items it h'; exact ih it h'
theorem RepRP.items {its : List Item} {p : PV} {v : Value} (h : RepRP S' w' base its p v) : ∀ it ∈ its, (it.1 = Option.none ∧ it.2.2.1 = [] ∧ it.2.2.2 = true) ∨ ∃ k C, it.1 = some (k, C) ∧ OwnIn S' w' base k C it.2.1 it.2.2.1 := by
 cases h with
 | one h => exact h.items
 | agg h => exact h.items
 | io cs k ho => intro it hit; simp at hit; subst hit; exact .inr ⟨k, 1, rfl, ho⟩
theorem RepRT.items {its : List Item} {p : List PV} {v : List Value} (h : RepRT S' w' base its p v) : ∀ it ∈ its, (it.1 = Option.none ∧ it.2.2.1 = [] ∧ it.2.2.2 = true) ∨ ∃ k C, it.1 = some (k, C) ∧ OwnIn S' w' base k C it.2.1 it.2.2.1 := by
 induction h with
 | nil => simp
 | cons h _ ih => intro it hit; rcases List.mem_append.1 hit with h' | h'; exact h.items it h'; exact ih it h'
theorem RepRR.items {its : List Item} {p : PV} {v : Value} (h : RepRR S' w' base its p v) : ∀ it ∈ its, (it.1 = Option.none ∧ it.2.2.1 = [] ∧ it.2.2.2 = true) ∨ ∃ k C, it.1 = some (k, C) ∧ OwnIn S' w' base k C it.2.1 it.2.2.1 := by
 cases h with
 | base h => exact h.items
 | tup h => exact h.items
end
end Go.Av
end
section
namespace Go.Av
open Go.RowKit
set_option linter.unusedVariables false
section
variable {P : Program} {tt : TT} {T : Tab} {G : Glob} {B : Nat} {ks : List Nat} {w0 : World} {S0 S S' S2 : Nat → Nat → Prop} {bm bm' bm2 : BM} {bx bx2 : Boxes} {st st' : ASt} {a : Act} {w w' : World} {Q : Exit → Act → World → Prop} {o : Oper} {base : Nat}

theorem nodupB_spec : ∀ {l : List Nat}, nodupB l = true → l.Nodup
 | [], _ => List.nodup_nil
 | x :: l, h => by
  simp [nodupB] at h
  exact List.nodup_cons.2 ⟨by simpa using h.1, nodupB_spec h.2⟩
theorem getB_setBs_mem : ∀ {l : List (Nat × Box)} {bx : Boxes} {nm : Nat} {b : Box}, (∀ x ∈ l, ∀ y ∈ l, x.1 = y.1 → x.2 = y.2) → (nm, b) ∈ l → getB (setBs bx l) nm = some b
 | [], bx, nm, b, _, h => by simp at h
 | (m, c) :: l, bx, nm, b, hc, h => by
  simp only [setBs]
  by_cases hm : ∃ b', (nm, b') ∈ l
  ·obtain ⟨b', hb'⟩ := hm
   have : b' = b := hc (nm, b') (by simp [hb']) (nm, b) h rfl
   subst this
   exact getB_setBs_mem (fun x hx y hy => hc x (by simp [hx]) y (by simp [hy])) hb'
  ·have hnl : ∀ x ∈ l, x.1 ≠ nm := fun x hx he => hm ⟨x.2, by rw [← he]; exact hx⟩
   rw [getB_setBs hnl]
   rcases List.mem_cons.1 h with h | h
   ·injection h with h1 h2
    subst h1 h2
    exact getB_self
   ·exact absurd ⟨b, h⟩ hm
theorem getB_setBs_inv : ∀ {l : List (Nat × Box)} {bx : Boxes} {nm : Nat} {b : Box}, getB (setBs bx l) nm = some b → (∃ b', (nm, b') ∈ l) ∨ ((∀ x ∈ l, x.1 ≠ nm) ∧ getB bx nm = some b) := by
 intro l bx nm b h
 by_cases hm : ∃ b', (nm, b') ∈ l
 ·exact .inl hm
 ·have hnl : ∀ x ∈ l, x.1 ≠ nm := fun x hx he => hm ⟨x.2, by rw [← he]; exact hx⟩
  exact .inr ⟨hnl, by rw [getB_setBs hnl] at h; exact h⟩
theorem frzL_spec : ∀ {l : List Nat} {x : Nat × Box}, x ∈ frzL bx l → x.1 ∈ l ∧ ∃ b, getB bx x.1 = some b ∧ x.2 = { b with frz := true }
 | [], x, h => by simp [frzL] at h
 | nm :: l, x, h => by
  simp only [frzL] at h
  split at h
  ·rename_i b hb
   rcases List.mem_cons.1 h with rfl | h
   ·exact ⟨by simp, b, hb, rfl⟩
   ·obtain ⟨h1, h2⟩ := frzL_spec h
    exact ⟨by simp [h1], h2⟩
  ·obtain ⟨h1, h2⟩ := frzL_spec h
   exact ⟨by simp [h1], h2⟩
theorem frzL_mem : ∀ {l : List Nat} {nm : Nat} {b : Box}, nm ∈ l → getB bx nm = some b → (nm, { b with frz := true }) ∈ frzL bx l
 | [], nm, b, h, _ => by simp at h
 | m :: l, nm, b, h, hb => by
  simp only [frzL]
  rcases List.mem_cons.1 h with rfl | h
  ·rw [hb]; simp
  ·split
   ·exact List.mem_cons_of_mem _ (frzL_mem h hb)
   ·exact frzL_mem h hb

/-- the blocks of the variables that arguments point to -/
def IoBl (bm : BM) (bx : Boxes) : List Nat → List Nat → Prop := All2 fun nm k => ∃ b C, getB bx nm = some b ∧ bm nm = some (k, C) ∧ b.frz = false ∧ b.row = false ∧ b.els.length = 1 ∧ isMap nm = false
theorem Cap1.toB {p : PV} {v : Value} (h : Cap1 S w p v) : RepB0 S w bm bx p v := by
 cases h with
 | one h => exact .one (.pure h)
 | agg h => exact .agg (RepL.toM h)
 | ref b o us h1 h2 h3 => exact .ref b o us h1 h2 h3
 | fn f => exact .fn f
theorem caps_args (h : SimX G B ks w0 S0 S bm st a w) {lent : List Nat} : ∀ {ps qs : List PV} {vs : List Value}, All2 (RepB0 S w bm st.boxes) ps vs → argKs st.boxes ps = some qs → (∀ nm ∈ ps.flatMap nmK, nm ∈ lent) →
  All2 (Cap1 (orS S (Lent bm st.boxes lent)) w) qs vs ∧ ∀ nm ∈ ps.flatMap nmK, ∃ b, getB st.boxes nm = some b ∧ pureLL b.els = true
 | [], qs, vs, hr, hq, _ => by cases hr; simp [argKs] at hq; subst hq; exact ⟨.nil, by simp⟩
 | p :: ps, qs, vs, hr, hq, hl => by
  cases hr with
  | cons hr1 hr2 =>
   rename_i v vs
   simp only [argKs] at hq
   split at hq <;> simp at hq
   rename_i q qs' hq1 hq2
   subst hq
   obtain ⟨i1, i3⟩ := caps_args h hr2 hq2 (fun nm hn => hl nm (by simp only [List.flatMap_cons, List.mem_append]; exact .inr hn))
   have hl1 : ∀ nm ∈ nmK p, nm ∈ lent := fun nm hn => hl nm (by simp only [List.flatMap_cons, List.mem_append]; exact .inl hn)
   have key : Cap1 (orS S (Lent bm st.boxes lent)) w q v ∧ ∀ nm ∈ nmK p, ∃ b, getB st.boxes nm = some b ∧ pureLL b.els = true := by
    cases hr1 with
    | one hr1 =>
     simp only [argK, Option.map_eq_some_iff] at hq1
     obtain ⟨c', hc', rfl⟩ := hq1
     exact ⟨.one (viewC_ok h hr1 hc' hl1), fun nm hn => viewC_box hc' nm hn⟩
    | agg hr1 =>
     simp only [argK, Option.map_eq_some_iff] at hq1
     obtain ⟨cs', hc', rfl⟩ := hq1
     exact ⟨.agg (viewL_ok h hr1 hc' hl1), fun nm hn => viewL_box hc' nm hn⟩
    | ref b o us h1 h2 h3 =>
     simp [argK] at hq1
     subst hq1
     exact ⟨.ref b o us (All2.mono h1 fun _ _ h => h.mono (fun _ _ h => .inl h) (fun _ _ _ => rfl)) (fun j hj => .inl (h2 j hj)) h3, by simp [nmK]⟩
    | fn f =>
     simp [argK] at hq1
     subst hq1
     exact ⟨.fn f, by simp [nmK]⟩
    | ptr nm ver i off e k hm hk =>
     unfold argK at hq1
     split at hq1
     all_goals first
      | (rename_i heq; cases heq; done)
      | (simp at hq1; done)
      | skip
     rename_i nm' ver' e' heq
     injection heq with e1 e2 e3 e4 e5
     subst e1 e2 e3 e4 e5
     split at hq1
     ·rename_i b hb
      split at hq1
      ·rename_i cs hels
       split at hq1 <;> simp at hq1
       rename_i hc
       subst hq1
       obtain ⟨hver, hrow, _, hpu⟩ := hc
       obtain ⟨b', q1, q2, q3⟩ := hk
       rw [hb] at q1
       injection q1 with q1
       subst q1
       obtain ⟨_, C, hbm⟩ := q3 hver
       have hfl : b.els.flatten = cs := by rw [hels]; simp
       obtain ⟨row, g1, g2⟩ := h.rowOf hm hb hbm (by rw [hfl]; exact hpu)
       rw [hfl] at g1
       refine ⟨?_, fun m hn => ?_⟩
       ·have := Cap1.ref (S := orS S (Lent bm st.boxes lent)) (w := w) (cs := cs) k 0 row (All2.mono g1 fun _ _ h => h.mono (fun _ _ h => .inl h) (fun _ _ _ => rfl)) (fun j hj => .inr ⟨nm, hl1 nm (by simp [nmK]), b, C, hb, hbm, by rw [hfl, g1.length]; omega⟩) g2
        simpa using this
       ·simp [nmK] at hn
        subst hn
        exact ⟨b, hb, by rw [hels]; simp [pureLL, hpu]⟩
      ·simp at hq1
     ·simp at hq1
   refine ⟨.cons key.1 i1, fun nm hn => ?_⟩
   simp only [List.flatMap_cons, List.mem_append] at hn
   rcases hn with hn | hn
   ·exact key.2 nm hn
   ·exact i3 nm hn
theorem nnL_rep {cs : List Cell} {vs : List Value} (h : RepL S w cs vs) : RepL S w (nnL cs) vs := All2.map_left h fun _ _ h => h.nn
theorem args_ok (h : SimX G B ks w0 S0 S bm st a w) {lent : List Nat} : ∀ {ps qs : List PV} {vs : List Value}, All2 (RepV S w bm st.boxes) ps vs → argPs st.boxes ps = some qs → (∀ nm ∈ ps.flatMap nmP, nm ∈ lent) → (∀ nm ∈ ps.flatMap ioP, nm ∉ lent) →
  ∃ ks0, ArgsOk (orS S (Lent bm st.boxes lent)) w ks0 qs vs ∧ IoBl bm st.boxes (ps.flatMap ioP) ks0 ∧ ∀ nm ∈ ps.flatMap nmP, ∃ b, getB st.boxes nm = some b ∧ pureLL b.els = true
 | [], qs, vs, hr, hq, _, _ => by cases hr; simp [argPs] at hq; subst hq; exact ⟨[], .nil, .nil, by simp⟩
 | p :: ps, qs, vs, hr, hq, hl, hd => by
  cases hr with
  | cons hr1 hr2 =>
   rename_i v vs
   simp only [argPs] at hq
   split at hq <;> simp at hq
   rename_i q qs' hq1 hq2
   subst hq
   obtain ⟨ks1, i1, i2, i3⟩ := args_ok h hr2 hq2 (fun nm hn => hl nm (by simp only [List.flatMap_cons, List.mem_append]; exact .inr hn)) (fun nm hn => hd nm (by simp only [List.flatMap_cons, List.mem_append]; exact .inr hn))
   have hl1 : ∀ nm ∈ nmP p, nm ∈ lent := fun nm hn => hl nm (by simp only [List.flatMap_cons, List.mem_append]; exact .inl hn)
   have hd1 : ∀ nm ∈ ioP p, nm ∉ lent := fun nm hn => hd nm (by simp only [List.flatMap_cons, List.mem_append]; exact .inl hn)
   cases p with
   | one c =>
    cases hr1 with
    | base hr1 => cases hr1 with
     | one hr1 =>
      simp only [argP, Option.map_eq_some_iff] at hq1
      obtain ⟨c', hc', rfl⟩ := hq1
      refine ⟨ks1, .one (viewC_ok h hr1 hc' hl1) i1, i2, fun nm hn => ?_⟩
      simp only [List.flatMap_cons, List.mem_append] at hn
      rcases hn with hn | hn
      ·exact viewC_box hc' nm hn
      ·exact i3 nm hn
   | agg cs =>
    cases hr1 with
    | base hr1 => cases hr1 with
     | agg hr1 =>
      simp only [argP, Option.map_eq_some_iff] at hq1
      obtain ⟨cs', hc', rfl⟩ := hq1
      refine ⟨ks1, .agg (viewL_ok h hr1 hc' hl1) i1, i2, fun nm hn => ?_⟩
      simp only [List.flatMap_cons, List.mem_append] at hn
      rcases hn with hn | hn
      ·exact viewL_box hc' nm hn
      ·exact i3 nm hn
   | fn f =>
    cases hr1 with
    | base hr1 => cases hr1 with
     | fn f =>
      simp [argP] at hq1
      subst hq1
      exact ⟨ks1, .fn i1, i2, i3⟩
   | ptr nm ver i off e =>
    cases hr1 with
    | base hr1 => cases hr1 with
     | ptr _ _ _ _ _ k hmap hk =>
      unfold argP at hq1
      split at hq1
      all_goals first
       | (rename_i heq; cases heq; done)
       | (simp at hq1; done)
       | skip
      rename_i nm' ver' e' heq
      injection heq with e1 e2 e3 e4 e5
      subst e1 e2 e3 e4 e5
      split at hq1
      ·rename_i b hb
       split at hq1
       ·rename_i cs hels
        split at hq1 <;> simp at hq1
        rename_i hc
        subst hq1
        obtain ⟨hver, hfz, hrow, _, hpu⟩ := hc
        obtain ⟨b', q1, q2, q3⟩ := hk
        rw [hb] at q1
        injection q1 with q1
        subst q1
        obtain ⟨_, C, hbm⟩ := q3 hver
        obtain ⟨hes, _, hB⟩ := h.boxes nm b hb
        have hes := hes hmap
        rw [hbm] at hB
        obtain ⟨arr, Ty, ha1, ha2, ha3⟩ := hB.blk hmap
        have hfl : b.els.flatten = cs := by rw [hels]; simp
        have hcl : cs.length ≤ arr.size := by
         have h1 := hB.one hrow
         have h2 := hes cs (by simp [hels])
         subst h1
         omega
        refine ⟨k :: ks1, ?_, .cons ⟨b, C, hb, hbm, hfz, hrow, by simp [hels], hmap⟩ i2, fun nm' hn => i3 nm' (by simpa [nmP] using hn)⟩
        have hnS : ∀ o, ¬ orS S (Lent bm st.boxes lent) k o := by
         rintro o (hs | ⟨m, hm, bm', Cm, g1, g2, g3⟩)
         ·have := (hB.free o hs).1; rw [hfz] at this; simp at this
         ·have := h.inj nm m b bm' k C Cm hb g1 hbm g2
          subst this
          exact hd1 nm (by simp [ioP]) hm
        have := ArgsOk.io (S := orS S (Lent bm st.boxes lent)) (w := w) (cs := cs) (k := k) ⟨arr, Ty, ha1, hcl, fun j c0 v hc0 hv => by
         have hp0 : c0.pureB = true := by simp [pureL] at hpu; exact hpu c0 (List.mem_of_getElem? hc0)
         exact (((ha3 j c0 v (by rw [hfl]; exact hc0) hv).pureC hp0).mono (fun _ _ h => .inl h) (fun _ _ _ => rfl))⟩ hnS i1
        simpa using this
       ·simp at hq1
      ·simp at hq1
   | undef => simp [argP] at hq1
   | skip => simp [argP] at hq1
   | tup _ => simp [argP] at hq1
   | ref cs =>
    cases hr1 with
    | base hr1 => cases hr1 with
     | ref b o us h1 h2 h3 =>
      simp [argP] at hq1
      subst hq1
      exact ⟨ks1, .ref b o us (All2.mono h1 fun _ _ h => h.mono (fun _ _ h => .inl h) (fun _ _ _ => rfl)) (fun j hj => .inl (h2 j hj)) h3 i1, i2, fun nm hn => i3 nm (by simpa [nmP] using hn)⟩
   | clo f cps =>
    cases hr1 with
    | base hr1 => cases hr1 with
     | clo hr1 =>
      simp only [argP] at hq1
      split at hq1 <;> simp at hq1
      rename_i qs2 hqs2
      subst hq1
      obtain ⟨c1, c2⟩ := caps_args h hr1 hqs2 hl1
      refine ⟨ks1, .clo c1 i1, i2, fun nm hn => ?_⟩
      simp only [List.flatMap_cons, List.mem_append] at hn
      rcases hn with hn | hn
      ·exact c2 nm hn
      ·exact i3 nm hn
   | io _ => simp [argP] at hq1
theorem ArgsOk.nn {ks0 : List Nat} {ps : List PV} {vs : List Value} (h : ArgsOk S w ks0 ps vs) : ArgsOk S w ks0 (ps.map PV.nnB) vs := by
 induction h with
 | nil => exact .nil
 | one h _ ih => exact .one h.nn ih
 | agg h _ ih => exact .agg (nnL_rep h) ih
 | fn _ ih => exact .fn ih
 | ref b o us h1 h2 h3 _ ih => exact .ref b o us h1 h2 h3 ih
 | clo h _ ih => exact .clo h ih
 | io h h2 _ ih =>
  obtain ⟨arr, Ty, h3, h4, h5⟩ := h
  rename_i ks1 cs k ps1 vs1 _
  refine .io (cs := nnL cs) ⟨arr, Ty, h3, by simpa [nnL] using h4, fun j c v hc hv => ?_⟩ h2 ih
  simp only [nnL, List.getElem?_map] at hc
  cases hc0 : cs[j]? with
  | none => simp [hc0] at hc
  | some c0 =>
   simp [hc0] at hc
   subst hc
   exact (h5 j c0 v hc0 hv).nn
theorem Impl.nn {f : FuncId} {F : List PV → Option (PV × List (List Cell))} (h : Impl P G f F) : Impl P G f fun qs => F (qs.map PV.nnB) :=
 ⟨h.1, fun S w ks ps vs r outs h1 h2 h3 h4 h5 => h.2 S w ks _ vs r outs h1 h2 h3.nn h4 h5⟩
theorem look_ok (hT : ∀ f F, T f = some F → Impl P G (f % 1000000) F) {f : FuncId} {F : List PV → Option (PV × List (List Cell))} (h : look T f = some F) : Impl P G f F := by
 unfold look at h
 split at h
 ·rename_i hf
  split at h
  ·rename_i F' hF'
   injection h with h
   subst h
   have := hT f F' hF'
   rw [Nat.mod_eq_of_lt hf] at this
   exact this.nn
  ·have := hT _ F h
   rw [Nat.add_mod_right, Nat.mod_eq_of_lt hf] at this
   exact this
 ·simp at h
theorem ioBl_nodup (h : SimX G B ks w0 S0 S bm st a w) : ∀ {ios ks0 : List Nat}, IoBl bm st.boxes ios ks0 → ios.Nodup → ks0.Nodup
 | [], ks0, hi, _ => by cases hi; exact List.nodup_nil
 | nm :: ios, ks0, hi, hn => by
  cases hi with
  | cons h1 h2 =>
   rename_i k ks1
   rw [List.nodup_cons] at hn
   refine List.nodup_cons.2 ⟨fun hm => ?_, ioBl_nodup h h2 hn.2⟩
   obtain ⟨j, hj⟩ := List.getElem?_of_mem hm
   have hjl : j < ios.length := by have := getElem_pos hj; rw [h2.length]; exact this
   obtain ⟨k', hk', b', C', g1, g2, _⟩ := All2.get h2 (i := j) (a := ios[j]) (by simp [hjl])
   rw [hj] at hk'
   injection hk' with hk'
   subst hk'
   obtain ⟨b, C, f1, f2, _⟩ := h1
   have := h.inj nm ios[j] b b' k C C' f1 g1 f2 g2
   exact hn.1 (this ▸ List.getElem_mem hjl)
theorem ioOut_spec : ∀ {ios ks0 : List Nat} {outs : List (List Cell)} {bo : List (Nat × Box)}, IoBl bm bx ios ks0 → IoOk S' w' ks0 outs → ioOut bx ios outs = some bo →
  bo.map (·.1) = ios ∧ ∀ x ∈ bo, ∃ b cs k C, getB bx x.1 = some b ∧ bm x.1 = some (k, C) ∧ k ∈ ks0 ∧ b.frz = false ∧ b.row = false ∧ x.2 = { b with els := [cs] } ∧ cs.length = b.e ∧ pureL cs = true ∧ cs ∈ outs ∧ (∃ arr T, w'.heap[k]? = some (.cells arr T (0, 0)) ∧ cs.length ≤ arr.size ∧ (∀ (i : Nat) c v, cs[i]? = some c → arr[i]? = some v → RepC S' w' c v)) ∧ ∀ o, ¬ S' k o
 | [], ks0, outs, bo, hi, ho, hb => by
  cases hi
  cases ho
  simp [ioOut] at hb
  subst hb
  simp
 | nm :: ios, ks0, outs, bo, hi, ho, hb => by
  cases hi with
  | cons h1 h2 =>
   cases ho with
   | cons g1 g2 =>
    rename_i k ks1 cs outs
    simp only [ioOut] at hb
    split at hb
    ·rename_i b m hb1 hm
     split at hb <;> simp at hb
     rename_i hc
     subst hb
     obtain ⟨i1, i2⟩ := ioOut_spec h2 g2 hm
     refine ⟨by simp [i1], fun x hx => ?_⟩
     rcases List.mem_cons.1 hx with rfl | hx
     ·obtain ⟨b', C, f1, f2, f3, f4, f5⟩ := h1
      simp only
      rw [hb1] at f1
      injection f1 with f1
      subst f1
      obtain ⟨arr, Ty, a1, a2, a3, a4⟩ := g1
      exact ⟨b, cs, k, C, hb1, f2, by simp, f3, f4, rfl, hc.1, hc.2, by simp, ⟨arr, Ty, a1, a2, a3⟩, a4⟩
     ·obtain ⟨b', cs', k', C', f1, f2, f3, f4, f5, f6, f7, f8, f9, f10⟩ := i2 x hx
      exact ⟨b', cs', k', C', f1, f2, by simp [f3], f4, f5, f6, f7, f8, by simp [f9], f10⟩
    ·simp at hb
theorem noSl_rep {c : Cell} {v : Value} (h : RepC S w c v) (hs : c.isSl = false) : RepC S2 w' c v := by
 cases h with
 | v _ h1 h2 => exact .v _ h1 h2
 | nil a => exact .nil a
 | slice => simp [Cell.isSl] at hs
end
end Go.Av
end
section
namespace Go.Av
open Go.RowKit
set_option linter.unusedVariables false
section
variable {P : Program} {tt : TT} {T : Tab} {G : Glob} {B : Nat} {ks : List Nat} {w0 : World} {S0 S S' S2 : Nat → Nat → Prop} {bm bm' bm2 : BM} {bx bx2 : Boxes} {st st' : ASt} {a : Act} {w w' : World} {Q : Exit → Act → World → Prop} {o : Oper} {base : Nat}

theorem All2.mem_right {α β : Type} {R : α → β → Prop} {l : List α} {m : List β} (h : All2 R l m) {b : β} (hb : b ∈ m) : ∃ a, a ∈ l ∧ R a b := by
 induction h with
 | nil => simp at hb
 | cons h _ ih =>
  rcases List.mem_cons.1 hb with rfl | hb
  ·exact ⟨_, by simp, h⟩
  ·obtain ⟨a, h1, h2⟩ := ih hb
   exact ⟨a, by simp [h1], h2⟩
theorem All2.and {α β : Type} {R R' : α → β → Prop} {l : List α} {m : List β} (h : All2 R l m) (h' : All2 R' l m) : All2 (fun a b => R a b ∧ R' a b) l m := by
 induction h with
 | nil => exact .nil
 | cons h _ ih => cases h' with
  | cons h1 h2 => exact .cons ⟨h, h1⟩ (ih h2)

/-- memory behind a call -/
theorem SimX.behind (h : SimX G B ks w0 S0 S bm st a w) {lent ios ks0 : List Nat} {outs : List (List Cell)} {its : List Item} {bo bn : List (Nat × Box)} {r : PV} {v : Value} {fz : Bool}
  (hlent : ∀ nm ∈ lent, ∃ b, getB st.boxes nm = some b ∧ pureLL b.els = true) (hfo : fz = true → frzOk lent = true) (hio : IoBl bm st.boxes ios ks0) (hg : GrowK (orS S (Lent bm st.boxes lent)) S' w w' ks0) (hiok : IoOk S' w' ks0 outs) (hbo : ioOut st.boxes ios outs = some bo)
  (hits : ∀ it ∈ its, (it.1 = none ∧ it.2.2.1 = [] ∧ it.2.2.2 = true) ∨ ∃ k C, it.1 = some (k, C) ∧ OwnIn S' w' w.heap.size k C it.2.1 it.2.2.1) (hnd : (blksOf its).Nodup) (hbn : All2 (ItB st.boxes) its bn) (hone : ∀ it ∈ its, it.2.2.2 = false → ∀ k C, it.1 = some (k, C) → C = 1)
  (hbnlt : ∀ x ∈ bn, x.1 < 1000000) (hnames : (ios ++ bn.map (·.1)).Nodup) (hdis : ∀ nm ∈ lent, nm ∉ ios ++ bn.map (·.1)) (hsl : fz = false → ∀ cs ∈ outs, cs.any Cell.isSl = false) (hslI : fz = false → ∀ it ∈ its, ∀ l ∈ it.2.2.1, l.any Cell.isSl = false) :
  ∃ S2, (∀ b o, S2 b o → S' b o) ∧ (fz = true → S2 = S') ∧ SimX G B ks w0 S0 S2 (upBm bm bn its) ⟨st.env, setBs st.boxes ((if fz then frzL st.boxes lent else []) ++ bo ++ bn)⟩ a w' ∧
   All2 (fun (it : Item) (nb : Nat × Box) => upBm bm bn its nb.1 = it.1 ∧ getB (setBs st.boxes ((if fz then frzL st.boxes lent else []) ++ bo ++ bn)) nb.1 = some nb.2 ∧ isMap nb.1 = false) its bn := by
 obtain ⟨hbo1, hbo2⟩ := ioOut_spec hio hiok hbo
 generalize hfr : (if fz then frzL st.boxes lent else []) = fr
 have hfr1 : ∀ x ∈ fr, fz = true ∧ x.1 ∈ lent ∧ ∃ b, getB st.boxes x.1 = some b ∧ x.2 = { b with frz := true } := by
  intro x hx
  rw [← hfr] at hx
  split at hx
  ·rename_i hf; exact ⟨hf, frzL_spec hx⟩
  ·simp at hx
 have hnbn : (bn.map (·.1)).Nodup := (List.nodup_append.1 hnames).2.1
 have hnio : ios.Nodup := (List.nodup_append.1 hnames).1
 have hdj : ∀ x ∈ ios, ∀ y ∈ bn.map (·.1), x ≠ y := (List.nodup_append.1 hnames).2.2
 have hbnn : ∀ x ∈ bn, x.1 ∈ bn.map (·.1) := fun x hx => List.mem_map.2 ⟨x, hx, rfl⟩
 have hbon : ∀ x ∈ bo, x.1 ∈ ios := fun x hx => by rw [← hbo1]; exact List.mem_map.2 ⟨x, hx, rfl⟩
 have huniq : ∀ {l : List (Nat × Box)}, (l.map (·.1)).Nodup → ∀ x ∈ l, ∀ y ∈ l, x.1 = y.1 → x.2 = y.2 := by
  intro l hl
  induction l with
  | nil => simp
  | cons z l ih =>
   simp only [List.map_cons, List.nodup_cons] at hl
   intro x hx y hy he
   rcases List.mem_cons.1 hx with hx' | hx' <;> rcases List.mem_cons.1 hy with hy' | hy'
   ·rw [hx', hy']
   ·exact absurd (List.mem_map.2 ⟨y, hy', by rw [← he, hx']⟩) hl.1
   ·exact absurd (List.mem_map.2 ⟨x, hx', by rw [he, hy']⟩) hl.1
   ·exact ih hl.2 x hx' y hy' he
 have hcons : ∀ x ∈ fr ++ bo ++ bn, ∀ y ∈ fr ++ bo ++ bn, x.1 = y.1 → x.2 = y.2 := by
  intro x hx y hy he
  simp only [List.mem_append] at hx hy
  rcases hx with (hx | hx) | hx <;> rcases hy with (hy | hy) | hy
  ·obtain ⟨_, _, b1, g1, g2⟩ := hfr1 x hx
   obtain ⟨_, _, b2, g3, g4⟩ := hfr1 y hy
   rw [he, g3] at g1
   injection g1 with g1
   subst g1
   rw [g2, g4]
  ·exact absurd (List.mem_append_left _ (he ▸ hbon y hy)) (hdis x.1 (hfr1 x hx).2.1)
  ·exact absurd (List.mem_append_right _ (he ▸ hbnn y hy)) (hdis x.1 (hfr1 x hx).2.1)
  ·exact absurd (List.mem_append_left _ (he ▸ hbon x hx)) (hdis y.1 (hfr1 y hy).2.1)
  ·exact huniq (by rw [hbo1]; exact hnio) x hx y hy he
  ·exact absurd he (hdj _ (hbon x hx) _ (hbnn y hy))
  ·exact absurd (List.mem_append_right _ (he ▸ hbnn x hx)) (hdis y.1 (hfr1 y hy).2.1)
  ·exact absurd he.symm (hdj _ (hbon y hy) _ (hbnn x hx))
  ·exact huniq hnbn x hx y hy he
 have hget : ∀ {nm b}, (nm, b) ∈ fr ++ bo ++ bn → getB (setBs st.boxes (fr ++ bo ++ bn)) nm = some b := fun hm => getB_setBs_mem hcons hm
 have hup := upBm_at (bm := bm) hnbn hbn.length.symm
 have hupn : ∀ {m}, m ∉ bn.map (·.1) → upBm bm bn its m = bm m := fun hm => upBm_not fun x hx he => hm (he ▸ hbnn x hx)
 have hsz := hg.keep.size
 -- blocks
 have hkin : ∀ k ∈ ks0, ∃ nm b C, nm ∈ ios ∧ getB st.boxes nm = some b ∧ bm nm = some (k, C) := by
  intro k hk
  obtain ⟨nm, h1, b, C, h2, h3, _⟩ := All2.mem_right hio hk
  exact ⟨nm, b, C, h1, h2, h3⟩
 let S2 : Nat → Nat → Prop := fun b o => S b o ∨ (S' b o ∧ (fz = true ∨ w.heap.size ≤ b))
 have hSS : ∀ b o, S b o → S' b o := fun b o hs => hg.mono b o (.inl hs)
 have h2S' : ∀ b o, S2 b o → S' b o := fun b o hs => hs.elim (hSS b o) (·.1)
 have hLlt : ∀ k o, Lent bm st.boxes lent k o → k < w.heap.size := by
  rintro k o ⟨nm, _, b, C, g1, g2, _⟩
  exact (h.boxes nm b g1).lt g2
 have hblk : ∀ b, b < w.heap.size → b ∉ ks0 → w'.heap[b]? = w.heap[b]? := fun b hb hk => hg.keep.block b hb hk
 have hcell : ∀ b o, S b o → w'.cell? ⟨b, o, none⟩ = w.cell? ⟨b, o, none⟩ := by
  intro b o hs
  refine World.cell?_of_block (a := ⟨b, o, none⟩) (hblk b (h.slt _ _ hs) fun hk => ?_)
  obtain ⟨nm, h1, b', C, h2, h3, h4, _⟩ := All2.mem_right hio hk
  obtain ⟨_, _, hB⟩ := h.boxes nm b' h2
  rw [h3] at hB
  have := (hB.free o hs).1
  rw [h4] at this
  simp at this
 have hrefs : RefsLe bm st.boxes (upBm bm bn its) (setBs st.boxes (fr ++ bo ++ bn)) := by
  intro nm b hb
  by_cases h1 : nm ∈ bn.map (·.1)
  ·obtain ⟨x, hx, rfl⟩ := List.mem_map.1 h1
   obtain ⟨it, hit, hib⟩ := All2.mem_right hbn hx
   have hv : x.2.ver = b.ver + 1 := by rw [hib]; simp [newVer, hb]
   exact ⟨x.2, hget (List.mem_append_right _ hx), by omega, fun hh => by omega⟩
  ·rw [hupn h1]
   by_cases h2 : nm ∈ ios
   ·rw [← hbo1] at h2
    obtain ⟨x, hx, rfl⟩ := List.mem_map.1 h2
    obtain ⟨b', cs, k, C, g1, g2, g3, g4, g5, g6, g7, _⟩ := hbo2 x hx
    rw [hb] at g1
    injection g1 with g1
    subst g1
    exact ⟨x.2, hget (List.mem_append_left _ (List.mem_append_right _ hx)), by rw [g6]; exact Nat.le_refl _, fun _ => by rw [g6]; exact ⟨rfl, rfl, rfl⟩⟩
   ·by_cases h3 : fz = true ∧ nm ∈ lent
    ·have hm : (nm, { b with frz := true }) ∈ fr := by rw [← hfr, if_pos h3.1]; exact frzL_mem h3.2 hb
     exact ⟨_, hget (List.mem_append_left _ (List.mem_append_left _ hm)), Nat.le_refl _, fun _ => ⟨rfl, rfl, rfl⟩⟩
    ·refine ⟨b, ?_, Nat.le_refl _, fun _ => ⟨rfl, rfl, rfl⟩⟩
     rw [getB_setBs]
     ·exact hb
     ·intro x hx he
      simp only [List.mem_append] at hx
      rcases hx with (hx | hx) | hx
      ·exact h3 ⟨(hfr1 x hx).1, he ▸ (hfr1 x hx).2.1⟩
      ·exact h2 (he ▸ hbon x hx)
      ·exact h1 (he ▸ hbnn x hx)
 refine ⟨S2, h2S', fun hf => ?_, ?_, ?_⟩
 ·funext b o
  apply propext
  exact ⟨h2S' b o, fun hs => .inr ⟨hs, .inl hf⟩⟩
 ·refine h.change hrefs (fun _ _ h => .inl h) hcell ⟨hg.keep.os, hg.keep.tape, hg.keep.output, hsz, fun b hb hk => ?_⟩ (fun b o hs => ?_) (fun b o hs => hg.slt b o (h2S' b o hs)) (fun nm b hb => ?_) (fun nm nm' b b' k C C' hb hb' h1 h2 => ?_)
  ·refine hblk b (Nat.lt_of_lt_of_le hb h.base) fun hk0 => ?_
   obtain ⟨nm, b', C, g0, g1, g2⟩ := hkin b hk0
   obtain ⟨_, _, hB⟩ := h.boxes nm b' g1
   rw [g2] at hB
   rcases hB.base' with h' | ⟨h', _⟩
   ·omega
   ·exact hk h'
  ·rcases hs with hs | ⟨hs, hs2⟩
   ·exact .inl hs
   ·rcases hg.fresh b o hs with (h' | h') | h'
    ·exact .inl h'
    ·rcases hs2 with hs2 | hs2
     ·obtain ⟨nm, hnm, b', C, g1, g2, g3⟩ := h'
      obtain ⟨_, _, hB⟩ := h.boxes nm b' g1
      rw [g2] at hB
      rcases hB.base' with h' | ⟨_, h'⟩
      ·exact .inr h'
      ·have := hfo hs2
       simp [frzOk] at this
       have := this nm hnm
       omega
     ·exact .inr (Nat.le_trans h.base hs2)
    ·exact .inr (Nat.le_trans h.base h')
  ·rcases getB_setBs_inv hb with ⟨b1, hm⟩ | ⟨hn, hb0⟩
   ·rw [hget hm] at hb
    injection hb with hb
    subst hb
    simp only [List.mem_append] at hm
    right
    rcases hm with (hm | hm) | hm
    ·obtain ⟨hf, hl, b0, g1, g2⟩ := hfr1 _ hm
     simp only at g1 g2 hl
     subst g2
     obtain ⟨b0', q1, q2⟩ := hlent nm hl
     rw [g1] at q1
     injection q1 with q1
     subst q1
     have hnn : nm ∉ bn.map (·.1) := fun h' => hdis nm hl (List.mem_append_right _ h')
     have hni : nm ∉ ios := fun h' => hdis nm hl (List.mem_append_left _ h')
     obtain ⟨hes, _, hB⟩ := h.boxes nm b0 g1
     have hmap : isMap nm = false := not_map (by
      have := hfo hf
      simp only [frzOk, List.all_eq_true, decide_eq_true_eq] at this
      have := this nm hl
      omega)
     refine ⟨hes, fun _ => q2, ?_⟩
     rw [hupn hnn]
     cases hbm : bm nm with
     | none => rw [hbm] at hB; exact hB
     | some kc =>
      obtain ⟨k, C⟩ := kc
      rw [hbm] at hB
      obtain ⟨arr, Ty, ha1, ha2, ha3⟩ := hB.blk hmap
      have hkk : k ∉ ks0 := fun hk0 => by
       obtain ⟨m, b', C', f0, f1, f2⟩ := hkin k hk0
       have := h.inj nm m b0 b' k C C' g1 f1 hbm f2
       subst this
       exact hni f0
      refine ⟨hB.base, ⟨fun _ => ⟨arr, Ty, (hblk k (heap_lt ha1) hkk).trans ha1, ha2, fun i c v hc hv => (ha3 i c v hc hv).mono (fun _ _ h => .inl h) hcell hrefs⟩, fun hm => map_abs hm hmap⟩, hB.room0, hB.cap, fun o hs => ⟨rfl, ?_⟩, fun _ o ho => .inr ⟨hg.mono _ _ (.inr ⟨nm, hl, b0, C, g1, hbm, ho⟩), .inl hf⟩, hB.one⟩
      rcases hg.fresh k o (h2S' k o hs) with (h' | ⟨m, hm', b', C', f1, f2, f3⟩) | h'
      ·exact (hB.free o h').2
      ·have := h.inj nm m b0 b' k C C' g1 f1 hbm f2
       subst this
       rw [g1] at f1
       injection f1 with f1
       subst f1
       exact f3
      ·have := heap_lt ha1; omega
    ·obtain ⟨b0, cs, k, C, g1, g2, g3, g4, g5, g6, g7, g8, g9, ⟨arr, Ty, a1, a2, a3⟩, g11⟩ := hbo2 _ hm
     simp only at g1 g2 g6
     subst g6
     have hnn : nm ∉ bn.map (·.1) := fun h' => hdj nm (hbon _ hm) nm h' rfl
     obtain ⟨hes, _, hB⟩ := h.boxes nm b0 g1
     rw [g2] at hB
     have hmap : isMap nm = false := by
      have h1 := hbon _ hm
      simp only at h1
      obtain ⟨j, hj⟩ := List.getElem?_of_mem h1
      obtain ⟨k2, _, b2, C2, _, _, _, _, _, h9⟩ := hio.get hj
      exact h9
     refine ⟨fun _ => by simpa using g7, fun hf => (by simp only at hf; rw [g4] at hf; simp at hf), ?_⟩
     rw [hupn hnn, g2]
     have hC := hB.one g5
     subst hC
     refine ⟨hB.base, ⟨fun _ => ⟨arr, Ty, a1, by simp only; omega, fun i c v hc hv => ?_⟩, fun hm => map_abs hm hmap⟩, fun _ => by simp, hB.cap, fun o hs => absurd (h2S' k o hs) (g11 o), fun hf => (by simp only at hf; rw [g4] at hf; simp at hf), fun _ => rfl⟩
     simp at hc
     have hr := a3 i c v hc hv
     cases hfz : fz with
     | true => exact .pure (hr.mono (fun b o hs => .inr ⟨hs, .inl hfz⟩) (fun _ _ _ => rfl))
     | false =>
      have hs := hsl hfz cs g9
      simp only [List.any_eq_false] at hs
      exact .pure (noSl_rep hr (Bool.eq_false_iff.2 (hs c (List.mem_of_getElem? hc))))
    ·obtain ⟨it, hit, hib⟩ := All2.mem_right (All2.and hbn hup) hm
     obtain ⟨hib, hbm⟩ := hib
     simp only [ItB] at hib hbm
     subst hib
     have hmap : isMap nm = false := not_map (by have := hbnlt _ hm; simp only at this; omega)
     refine ⟨fun _ => ?_, fun hf => by simp at hf, ?_⟩
     ·rcases hits it hit with ⟨_, h2, _⟩ | ⟨k, C, _, ho⟩
      ·simp [h2]
      ·exact ho.len
     ·rw [hbm]
      rcases hits it hit with ⟨h1, h2, h3⟩ | ⟨k, C, h1, ho⟩
      ·rw [h1]; exact ⟨h2, h3, hmap⟩
      ·rw [h1]
       obtain ⟨arr, Ty, a1, a2, a3⟩ := ho.blk
       refine ⟨.inl ⟨.inl (hbnlt _ hm), Nat.le_trans h.base ho.new⟩, ⟨fun _ => ⟨arr, Ty, a1, a2, fun i c v hc hv => ?_⟩, fun hm => map_abs hm hmap⟩, fun _ => ho.room, ho.cap, fun o hs => absurd (h2S' k o hs) (ho.free o), fun hf => by simp at hf, fun hr => hone it hit hr k C h1⟩
       have hr := a3 i c v hc hv
       cases hfz : fz with
       | true => exact .pure (hr.mono (fun b o hs => .inr ⟨hs, .inl hfz⟩) (fun _ _ _ => rfl))
       | false =>
        have hs := hslI hfz it hit
        obtain ⟨l, hl, hcl⟩ := List.mem_flatten.1 (List.mem_of_getElem? hc)
        have := hs l hl
        simp only [List.any_eq_false] at this
        exact .pure (noSl_rep hr (Bool.eq_false_iff.2 (this c hcl)))
   ·have h1 : nm ∉ bn.map (·.1) := fun h' => by
     obtain ⟨x, hx, rfl⟩ := List.mem_map.1 h'
     exact hn x (by simp [hx]) rfl
    have h2 : nm ∉ ios := fun h' => by
     rw [← hbo1] at h'
     obtain ⟨x, hx, rfl⟩ := List.mem_map.1 h'
     exact hn x (by simp [hx]) rfl
    have h3 : fz = true → nm ∉ lent := fun hf h' => by
     have hm : (nm, { b with frz := true }) ∈ fr := by rw [← hfr, if_pos hf]; exact frzL_mem h' hb0
     exact hn _ (by simp only [List.mem_append]; exact .inl (.inl hm)) rfl
    refine .inl ⟨hb0, hupn h1, fun k C hbm => ⟨hblk k ((h.boxes nm b hb0).lt hbm) fun hk0 => ?_, fun o hs => ?_⟩⟩
    ·obtain ⟨m, b', C', f0, f1, f2⟩ := hkin k hk0
     have := h.inj nm m b b' k C C' hb0 f1 hbm f2
     subst this
     exact h2 f0
    ·rcases hs with hs | ⟨hs, hs2⟩
     ·exact hs
     ·rcases hg.fresh k o hs with (h' | ⟨m, hm', b', C', f1, f2, f3⟩) | h'
      ·exact h'
      ·have := h.inj nm m b b' k C C' hb0 f1 hbm f2
       subst this
       rcases hs2 with hs2 | hs2
       ·exact absurd hm' (h3 hs2)
       ·have := (h.boxes nm b hb0).lt hbm; omega
      ·have := (h.boxes nm b hb0).lt hbm; omega
  ·-- inj
   have key : ∀ nm b k C, getB (setBs st.boxes (fr ++ bo ++ bn)) nm = some b → upBm bm bn its nm = some (k, C) → (nm ∈ bn.map (·.1) ∧ w.heap.size ≤ k) ∨ (nm ∉ bn.map (·.1) ∧ bm nm = some (k, C) ∧ k < w.heap.size ∧ ∃ b0, getB st.boxes nm = some b0) := by
    intro nm b k C hb hu
    by_cases h1 : nm ∈ bn.map (·.1)
    ·left
     refine ⟨h1, ?_⟩
     obtain ⟨x, hx, rfl⟩ := List.mem_map.1 h1
     obtain ⟨it, hit, hbm⟩ := All2.mem_right hup hx
     rw [hu] at hbm
     rcases hits it hit with ⟨h2, _⟩ | ⟨k', C', h2, ho⟩
     ·rw [h2] at hbm; cases hbm
     ·rw [h2] at hbm
      injection hbm with hbm
      injection hbm with e1 e2
      subst e1
      exact ho.new
    ·right
     rw [hupn h1] at hu
     have hb0 : ∃ b0, getB st.boxes nm = some b0 := by
      rcases getB_setBs_inv hb with ⟨b1, hm⟩ | ⟨_, hb0⟩
      ·simp only [List.mem_append] at hm
       rcases hm with (hm | hm) | hm
       ·obtain ⟨_, _, b0, g1, _⟩ := hfr1 _ hm; exact ⟨b0, g1⟩
       ·obtain ⟨b0, cs, k, C, g1, _⟩ := hbo2 _ hm; exact ⟨b0, g1⟩
       ·exact absurd (hbnn _ hm) h1
      ·exact ⟨_, hb0⟩
     obtain ⟨b0, hb0⟩ := hb0
     exact ⟨h1, hu, (h.boxes nm b0 hb0).lt hu, b0, hb0⟩
   rcases key nm b k C hb h1 with ⟨g1, g2⟩ | ⟨g1, g2, g3, b0, g4⟩ <;> rcases key nm' b' k C' hb' h2 with ⟨f1, f2⟩ | ⟨f1, f2, f3, b1, f4⟩
   ·-- both new: blocks without repetition
    obtain ⟨x, hx, rfl⟩ := List.mem_map.1 g1
    obtain ⟨y, hy, rfl⟩ := List.mem_map.1 f1
    obtain ⟨i, hi⟩ := List.getElem?_of_mem hx
    obtain ⟨j, hj⟩ := List.getElem?_of_mem hy
    have hil : i < its.length := by have := getElem_pos hi; have := hup.length; omega
    have hjl : j < its.length := by have := getElem_pos hj; have := hup.length; omega
    obtain ⟨x', q1, q2⟩ := hup.get (i := i) (a := its[i]) (by simp [hil])
    obtain ⟨y', q3, q4⟩ := hup.get (i := j) (a := its[j]) (by simp [hjl])
    rw [hi] at q1
    injection q1 with q1
    subst q1
    rw [hj] at q3
    injection q3 with q3
    subst q3
    rw [h1] at q2
    rw [h2] at q4
    have hnn : ∀ {l : List Item}, (blksOf l).Nodup → ∀ {i j : Nat} {C C' : Nat} (hi : i < l.length) (hj : j < l.length), l[i].1 = some (k, C) → l[j].1 = some (k, C') → i = j := by
     intro l
     induction l with
     | nil => intro _ i j C C' hi; simp at hi
     | cons it l ih =>
      intro hnd i j C C' hi hj e1 e2
      have hmem : ∀ {q C} (hq : q < l.length), l[q].1 = some (k, C) → k ∈ blksOf l := fun {q C} hq he => List.mem_filterMap.2 ⟨l[q], List.getElem_mem hq, by rw [he]; rfl⟩
      cases i with
      | zero =>
       cases j with
       | zero => rfl
       | succ j =>
        simp at e1 e2
        have : blksOf (it :: l) = k :: blksOf l := by simp [blksOf, e1]
        rw [this, List.nodup_cons] at hnd
        exact absurd (hmem (by simpa using hj) e2) hnd.1
      | succ i =>
       cases j with
       | zero =>
        simp at e1 e2
        have : blksOf (it :: l) = k :: blksOf l := by simp [blksOf, e2]
        rw [this, List.nodup_cons] at hnd
        exact absurd (hmem (by simpa using hi) e1) hnd.1
       | succ j =>
        simp at e1 e2
        have hnd' : (blksOf l).Nodup := by
         unfold blksOf at hnd ⊢
         rw [List.filterMap_cons] at hnd
         split at hnd
         ·exact hnd
         ·exact (List.nodup_cons.1 hnd).2
        rw [ih hnd' (by simpa using hi) (by simpa using hj) e1 e2]
    have hij := hnn hnd hil hjl q2.symm q4.symm
    subst hij
    rw [hi] at hj
    injection hj with hj
    rw [hj]
   ·omega
   ·omega
   ·exact h.inj nm nm' b0 b1 k C C' g4 f4 g2 f2
 ·exact All2.of_get hup.length fun i x y hx hy => by
   obtain ⟨y', h1, h2⟩ := hup.get hx
   rw [hy] at h1
   injection h1 with h1
   subst h1
   exact ⟨h2, hget (by simp only [List.mem_append]; exact .inr (List.mem_of_getElem? hy)), not_map (by have := hbnlt y (List.mem_of_getElem? hy); omega)⟩

theorem RepR.noSl {its : List Item} {c : Cell} {v : Value} (h : RepR S' w' base its c v) (hs : c.hasSl = false) : (∀ it ∈ its, ∀ l ∈ it.2.2.1, l.any Cell.isSl = false) := by
 cases h with
 | pure h => simp
 | none e x => simp
 | own e els k C ho =>
  intro it hit
  simp at hit
  subst hit
  simp only [Cell.hasSl, List.any_eq_false] at hs
  intro l hl
  exact Bool.eq_false_iff.2 (hs l hl)
theorem RepRL.noSl {its : List Item} {c : List Cell} {v : List Value} (h : RepRL S' w' base its c v) (hs : hasSlL c = false) : (∀ it ∈ its, ∀ l ∈ it.2.2.1, l.any Cell.isSl = false) := by
 induction h with
 | nil => simp
 | cons h _ ih =>
  simp only [hasSlL, List.any_cons, Bool.or_eq_false_iff] at hs
  intro it hit
  rcases List.mem_append.1 hit with h' | h'
  ·exact h.noSl hs.1 it h'
  ·exact ih hs.2 it h'
theorem hasSl_isSl {cs : List Cell} (h : hasSlL cs = false) (hp : pureL cs = true) : cs.any Cell.isSl = false := by
 simp only [hasSlL, List.any_eq_false] at *
 simp only [pureL, List.all_eq_true] at hp
 intro x hx
 have h1 := h x hx
 have h2 := hp x hx
 cases x with
 | own => simp [Cell.pureB] at h2
 | _ => exact h1
theorem RepRP.noSl {its : List Item} {p : PV} {v : Value} (h : RepRP S' w' base its p v) (hs : hasSlP p = false) : (∀ it ∈ its, ∀ l ∈ it.2.2.1, l.any Cell.isSl = false) := by
 cases h with
 | one h => exact h.noSl hs
 | agg h => exact h.noSl hs
 | io cs k ho =>
  intro it hit
  simp at hit
  subst hit
  intro l hl
  simp at hl
  subst hl
  simp only [List.any_eq_false]
  intro c hc
  obtain ⟨arr, Ty, a1, a2, a3⟩ := ho.blk
  obtain ⟨i, hi⟩ := List.getElem?_of_mem hc
  have hil := getElem_pos hi
  have hlt : i < arr.size := by omega
  have hr := a3 i c arr[i] (by simpa using hi) (by simp [hlt])
  simp only [hasSlP, hasSlL, List.any_eq_false] at hs
  have h1 := hs c hc
  have h2 := hr.pure
  cases c with
  | own => simp [Cell.pureB] at h2
  | _ => exact h1
theorem RepRT.noSl {its : List Item} {p : List PV} {v : List Value} (h : RepRT S' w' base its p v) (hs : p.any hasSlP = false) : (∀ it ∈ its, ∀ l ∈ it.2.2.1, l.any Cell.isSl = false) := by
 induction h with
 | nil => simp
 | cons h _ ih =>
  simp only [List.any_cons, Bool.or_eq_false_iff] at hs
  intro it hit
  rcases List.mem_append.1 hit with h' | h'
  ·exact h.noSl hs.1 it h'
  ·exact ih hs.2 it h'
theorem RepRR.noSl {its : List Item} {p : PV} {v : Value} (h : RepRR S' w' base its p v) (hs : hasSlR p = false) : (∀ it ∈ its, ∀ l ∈ it.2.2.1, l.any Cell.isSl = false) := by
 cases h with
 | base h =>
  refine h.noSl ?_
  unfold hasSlR at hs
  split at hs
  ·cases h
  ·exact hs
 | tup h => exact h.noSl hs
theorem RepR.vars {its : List Item} {c : Cell} {v : Value} (h : RepR S' w' base its c v) : ∀ it ∈ its, it.2.2.2 = true := by
 cases h with
 | pure h => simp
 | none e x => simp
 | own e els k C ho => simp
theorem RepRL.vars {its : List Item} {c : List Cell} {v : List Value} (h : RepRL S' w' base its c v) : ∀ it ∈ its, it.2.2.2 = true := by
 induction h with
 | nil => simp
 | cons h _ ih => intro it hit; rcases List.mem_append.1 hit with h' | h'; exact h.vars it h'; exact ih it h'
theorem RepRP.vars {its : List Item} {p : PV} {v : Value} (h : RepRP S' w' base its p v) : ∀ it ∈ its, it.2.2.2 = false → ∀ k C, it.1 = some (k, C) → C = 1 := by
 cases h with
 | one h => intro it hit hf; rw [h.vars it hit] at hf; cases hf
 | agg h => intro it hit hf; rw [h.vars it hit] at hf; cases hf
 | io cs k ho =>
  intro it hit _ k' C' he
  simp at hit
  subst hit
  simp at he
  exact he.2.symm
theorem RepRT.vars {its : List Item} {p : List PV} {v : List Value} (h : RepRT S' w' base its p v) : ∀ it ∈ its, it.2.2.2 = false → ∀ k C, it.1 = some (k, C) → C = 1 := by
 induction h with
 | nil => simp
 | cons h _ ih => intro it hit; rcases List.mem_append.1 hit with h' | h'; exact h.vars it h'; exact ih it h'
theorem RepRR.vars {its : List Item} {p : PV} {v : Value} (h : RepRR S' w' base its p v) : ∀ it ∈ its, it.2.2.2 = false → ∀ k C, it.1 = some (k, C) → C = 1 := by
 cases h with
 | base h => exact h.vars
 | tup h => exact h.vars

theorem callee_ok (h : SimX G B ks w0 S0 S bm st a w) {g : Operand} {f : FuncId} {cs : List PV} (hf : calleeF st.get g = some (f, cs)) : ∃ us : List Value, a.eval g = .func (.func f) #[] us.toArray ∧ All2 (RepV S w bm st.boxes) cs us := by
 cases g with
 | tmp t =>
  simp only [calleeF] at hf
  have hs := h.slot t
  show ∃ us : List Value, a.tmps.getD t undef = _ ∧ _
  generalize a.tmps.getD t undef = v at hs
  split at hf <;> simp only [Option.some.injEq, reduceCtorEq, Prod.mk.injEq] at hf
  ·rename_i f' he
   obtain ⟨rfl, rfl⟩ := hf
   rw [he] at hs
   cases hs with
   | base hs => cases hs; exact ⟨[], rfl, .nil⟩
  ·rename_i f' ps he
   obtain ⟨rfl, rfl⟩ := hf
   rw [he] at hs
   cases hs with
   | base hs => cases hs with
    | clo hs => exact ⟨_, rfl, All2.mono hs fun _ _ h => .base h.toB⟩
 | func f' => simp [calleeF] at hf; obtain ⟨rfl, rfl⟩ := hf; exact ⟨[], rfl, .nil⟩
 | const _ => simp [calleeF] at hf
 | global _ => simp [calleeF] at hf
theorem call_ok (hT : ∀ f F, T f = some F → Impl P G (f % 1000000) F) (h : SimX G B ks w0 S0 S bm st a w) {g : Operand} {args : Array Operand} {ts : Array TypeId} {u : Upd}
  (ho : o.op = .call { callee := .value g, args := args, argTypes := ts }) (hu : eff tt T G o st.get st.boxes = some u) : o.wp P a w (Sim G B ks w0 S0 (u.app st)) Q := by
 unfold eff at hu
 rw [ho] at hu
 simp only at hu
 split at hu
 ·rename_i f cps ps hf hps
  obtain ⟨us, hfe, hcr⟩ := callee_ok h hf
  generalize hps2 : ps ++ cps = ps2 at hu
  unfold callOp at hu
  split at hu
  ·rename_i F qs hF hqs
   split at hu
   ·rename_i r outs hr
    simp only at hu
    split at hu
    ·rename_i bo p bn hbo hland
     split at hu <;> simp only [Option.some.injEq, reduceCtorEq] at hu
     rename_i hc
     simp only [Bool.and_eq_true] at hc
     obtain ⟨⟨⟨⟨hc1, hc2⟩, hc3⟩, hc5⟩, hc4⟩ := hc
     subst hu
     obtain ⟨⟨fn, hfn, hbody, hname⟩, hcall⟩ := look_ok hT hF
     have hargs : All2 (RepV S w bm st.boxes) ps2 (args.toList.map a.eval ++ us) := by rw [← hps2]; exact (rds_ok h hps).append hcr
     have hnames := nodupB_spec hc1
     have hdis : ∀ nm ∈ ps2.flatMap nmP, nm ∉ ps2.flatMap ioP ++ bn.map (·.1) := by
      intro nm hn
      have := List.all_eq_true.1 hc2 nm hn
      simpa using this
     obtain ⟨ks0, hA, hio, hlent⟩ := args_ok h (lent := ps2.flatMap nmP) hargs hqs (fun _ h => h) (fun nm hn hm => hdis nm hm (List.mem_append_left _ hn))
     have hrun : (execOp a.eval o).run P w = .ok (.enter f (args.map a.eval ++ us.toArray)) w := by
      simp only [execOp, ho, resolve, hfe, Deferred.ofValue, Sem.run_bind, Sem.run_pure, Result.andThen_ok, invoke, callFunc, run_program, hfn]
      simp [hname, hbody]
     unfold Oper.wp
     rw [hrun]
     simp only [Oper.upon]
     have hslt : ∀ b o, orS S (Lent bm st.boxes (ps2.flatMap nmP)) b o → b < w.heap.size := by
      rintro b o (hs | ⟨nm, _, b', C, g1, g2, _⟩)
      ·exact h.slt b o hs
      ·exact (h.boxes nm b' g1).lt g2
     have hcl := hcall (orS S (Lent bm st.boxes (ps2.flatMap nmP))) w ks0 _ _ r outs (h.glob.mono (fun _ _ h => .inl h) (fun _ _ _ => rfl)) hslt hA (ioBl_nodup h hio (List.nodup_append.1 hnames).1) hr
     have he : (List.map a.eval args.toList ++ us).toArray = args.map a.eval ++ us.toArray := by
      have : (List.map a.eval args.toList).toArray = args.map a.eval := by rw [← Array.toList_map]
      rw [← this]
      simp
     rw [he] at hcl
     refine hcl.mono ?_
     rintro e w' ⟨v, S', its, rfl, hrep, hnd, hiok, hg⟩
     obtain ⟨hbn, hput⟩ := hrep.landed hland
     generalize hfz : (hasSlR r || outs.any hasSlL) = fz at hc4
     have hpo : ∀ cs ∈ outs, pureL cs = true := by
      have : ∀ {ios outs bo}, ioOut st.boxes ios outs = some bo → ∀ cs ∈ outs, pureL cs = true := by
       intro ios
       induction ios with
       | nil => intro outs bo hb; cases outs <;> simp [ioOut] at hb ⊢
       | cons nm ios ih =>
        intro outs bo hb
        cases outs with
        | nil => simp
        | cons cs outs =>
         simp only [ioOut] at hb
         split at hb
         ·rename_i b m hb1 hm
          split at hb <;> simp at hb
          rename_i hc
          intro cs' hcs'
          rcases List.mem_cons.1 hcs' with rfl | h'
          ·exact hc.2
          ·exact ih hm cs' h'
         ·simp at hb
      exact this hbo
     obtain ⟨S2, hS2, hS2f, hsim, hbx⟩ := h.behind (r := r) (v := v) (fz := fz) hlent (fun hf => by rw [hf] at hc4; simpa using hc4) hio hg hiok hbo hrep.items hnd hbn hrep.vars (fun x hx => by simp only [frzOk, List.all_eq_true, decide_eq_true_eq] at hc5; exact hc5 _ (List.mem_map.2 ⟨x, hx, rfl⟩)) hnames hdis
      (fun hf cs hcs => by
       rw [hf] at hfz
       simp only [Bool.or_eq_false_iff, List.any_eq_false] at hfz
       exact hasSl_isSl (Bool.eq_false_iff.2 (hfz.2 cs hcs)) (hpo cs hcs))
      (fun hf => by
       rw [hf] at hfz
       simp only [Bool.or_eq_false_iff] at hfz
       exact hrep.noSl hfz.1)
     have hV := hput (S2 := S2) (bm2 := upBm bm bn its) (bx2 := setBs st.boxes ((if fz then frzL st.boxes (ps2.flatMap nmP) else []) ++ bo ++ bn)) (fun c v hpu hsl hr => by
      cases hfz2 : fz with
      | true => rw [hS2f hfz2]; exact hr
      | false =>
       rw [hfz2] at hfz
       simp only [Bool.or_eq_false_iff] at hfz
       have h1 := hsl hfz.1
       have h2 : c.isSl = false := by
        cases c with
        | own => simp [Cell.pureB] at hpu
        | _ => exact h1
       exact noSl_rep hr h2) hbx
     refine ⟨S2, upBm bm bn its, ?_⟩
     have := hsim.putDst o.dst hV
     exact this
    ·simp at hu
   ·simp at hu
  ·simp at hu
 ·simp at hu

theorem eff_ok (htt : ∀ t i, tt t = some i → tinfo P t = some i) (hT : ∀ f F, T f = some F → Impl P G (f % 1000000) F) (h : SimX G B ks w0 S0 S bm st a w) {u : Upd} (hu : eff tt T G o st.get st.boxes = some u) :
  o.wp P a w (Sim G B ks w0 S0 (u.app st)) Q := by
 have hpure : ∀ {p}, pureOp tt G st.get o.op = some p → o.wp P a w (Sim G B ks w0 S0 (Upd.app ⟨putD o.dst p, [], []⟩ st)) Q := by
  intro p hp
  obtain ⟨v, h1, h2⟩ := pureOp_ok htt h hp
  exact wp_value h1 ⟨S, bm, h.putDst o.dst h2⟩
 have hu0 := hu
 unfold eff at hu
 split at hu
 ·rename_i t heq; exact alloc_ok htt h heq hu0
 ·rename_i t x heq; exact box_ok h heq hu0
 ·rename_i t x heq; exact load_ok htt h heq hu0
 ·rename_i t x y heq; exact store_ok htt h heq hu0
 ·rename_i t len parts heq; exact buildSlice_ok htt h heq hu0
 ·rename_i t l c heq; exact makeSlice_ok htt h heq hu0
 ·rename_i x y t t' heq; exact append_ok htt h heq hu0
 ·rename_i x y t t' heq; exact copy_ok htt h heq hu0
 ·rename_i g args ts heq; exact call_ok hT h heq hu0
 ·rename_i t heq; exact makeMap_ok htt h heq hu0
 ·rename_i t x k ok heq; exact lookup_ok htt h heq hu0
 ·rename_i t x k v heq; exact mapUpdate_ok htt h heq hu0
 ·rename_i src dst x heq; exact conv_ok htt h heq hu0
 ·rename_i x t heq
  split at hu
  ·rename_i nm ver hx
   split at hu
   ·rename_i b i hb hi
    split at hu
    ·rename_i hd es k e hels hk
     split at hu <;> simp only [Option.some.injEq, reduceCtorEq] at hu
     rename_i hc
     subst hu
     exact lenM_ok htt h heq hx hb hi hels hk hc.1
    ·simp at hu
   ·simp at hu
  ·split at hu <;> simp at hu
   rename_i p hp
   subst hu
   exact hpure hp
 ·split at hu <;> simp at hu
  rename_i p hp
  subst hu
  exact hpure hp
end
end Go.Av
end
section
namespace Go.Av
open Go.RowKit
set_option linter.unusedVariables false
section
variable {P : Program} {tt : TT} {T : Tab} {G : Glob} {B : Nat} {ks : List Nat} {w0 : World} {S0 S S' S2 : Nat → Nat → Prop} {bm bm' bm2 : BM} {bx bx2 : Boxes} {st st' : ASt} {a : Act} {w w' : World} {Q : Exit → Act → World → Prop} {o : Oper} {base : Nat}

theorem SimX.skipD (h : SimX G B ks w0 S0 S bm st a w) (d : Option Nat) : SimX G B ks w0 S0 S bm ⟨setAll st.env (putD d .skip), st.boxes⟩ (a.put d undef) w := h.putDst d (.base .skip)
theorem goes_ok (h : SimX G B ks w0 S0 S bm st a w) {ops : List Oper} {r : Bool} (hr : goes ops st.get o.guard = some r) : Region.wanted o (yielded ops.toArray a.tmps) = r := by
 unfold Region.wanted
 unfold goes at hr
 cases hg : o.guard with
 | none => rw [hg] at hr; simp at hr; simp [hr]
 | some gw =>
  obtain ⟨j, want⟩ := gw
  rw [hg] at hr
  simp only at hr ⊢
  unfold yielded
  simp only [List.getElem?_toArray]
  cases hj : ops[j]? with
  | none => simp [hj] at hr; simp [← hr]
  | some o' =>
   rw [hj] at hr
   simp only at hr
   cases hd : o'.dst with
   | none => simp [hd] at hr; simp [hd, ← hr]
   | some d =>
    rw [hd] at hr
    simp only at hr
    have hs := h.slot d
    simp only [Option.bind_some, hd]
    split at hr
    ·rename_i b he
     simp at hr
     rw [he] at hs
     have hv : a.tmps.getD d undef = .bool b := by
      generalize a.tmps.getD d undef = v at hs
      cases hs with
      | base hs => cases hs with
       | one hs => have hs := hs.pureC rfl; cases hs; rfl
     have ht : a.tmps[d]? = some (.bool b) := by
      cases hq : a.tmps[d]? with
      | none => simp [Array.getD_eq_getD_getElem?, hq, undef] at hv
      | some v => simp [Array.getD_eq_getD_getElem?, hq] at hv; rw [hv]
     simp [ht, ← hr]
    ·rename_i he
     simp at hr
     rw [he] at hs
     have hv : a.tmps.getD d undef = undef := by
      generalize a.tmps.getD d undef = v at hs
      cases hs with
      | base hs => cases hs; rfl
     cases hq : a.tmps[d]? with
     | none => simp [← hr]
     | some v =>
      simp [Array.getD_eq_getD_getElem?, hq] at hv
      subst hv
      simp [undef, ← hr]
    ·simp at hr
theorem step1_ok (htt : ∀ t i, tt t = some i → tinfo P t = some i) (hT : ∀ f F, T f = some F → Impl P G (f % 1000000) F) (h : Sim G B ks w0 S0 st a w) {ops : List Oper} {u : Upd} (hr : step1 tt T G ops o st = some u) :
  if Region.wanted o (yielded ops.toArray a.tmps) then o.wp P a w (Sim G B ks w0 S0 (u.app st)) Q else Sim G B ks w0 S0 (u.app st) (a.put o.dst undef) w := by
 obtain ⟨S, bm, h⟩ := h
 unfold step1 at hr
 split at hr
 ·rename_i hg
  rw [goes_ok h hg]
  exact eff_ok htt hT h hr
 ·rename_i hg
  rw [goes_ok h hg]
  simp at hr
  subst hr
  exact ⟨S, bm, h.skipD o.dst⟩
 ·simp at hr
theorem run1_ok (htt : ∀ t i, tt t = some i → tinfo P t = some i) (hT : ∀ f F, T f = some F → Impl P G (f % 1000000) F) (h : Sim G B ks w0 S0 st a w) {ops : List Oper} (hr : run1 tt T G ops o st = some st') :
  if Region.wanted o (yielded ops.toArray a.tmps) then o.wp P a w (Sim G B ks w0 S0 st') Q else Sim G B ks w0 S0 st' (a.put o.dst undef) w := by
 unfold run1 at hr
 split at hr <;> simp at hr
 rename_i u hu
 subst hr
 exact step1_ok htt hT h hu
theorem runL_ok (htt : ∀ t i, tt t = some i → tinfo P t = some i) (hT : ∀ f F, T f = some F → Impl P G (f % 1000000) F) {ops : List Oper} : ∀ {l : List Oper} {st : ASt} {a : Act} {w : World}, Sim G B ks w0 S0 st a w → runL tt T G ops l st = some st' →
  (∀ a w, Sim G B ks w0 S0 st' a w → Q .normal a w) → wpList P ops.toArray Q l a w
 | [], st, a, w, h, hr, hq => by
  simp [runL] at hr
  subst hr
  exact hq _ _ h
 | o :: l, st, a, w, h, hr, hq => by
  simp only [runL] at hr
  split at hr
  ·rename_i st1 h1
   have := run1_ok (Q := Q) htt hT h h1
   unfold wpList
   split
   ·rename_i hw
    rw [if_pos hw] at this
    exact .inl (Oper.wp_mono (fun a w hs => runL_ok htt hT hs hr hq) this)
   ·rename_i hw
    rw [if_neg hw] at this
    exact runL_ok htt hT this hr hq
  ·simp at hr

def AE.to : AE → Exit
 | .normal => .normal
 | .exit id => .exit id
 | .ret => .ret
def Post (G : Glob) (B : Nat) (ks : List Nat) (w0 : World) (S0 : Nat → Nat → Prop) (r : AE × ASt) (e : Exit) (a : Act) (w : World) : Prop := e = r.1.to ∧ Sim G B ks w0 S0 r.2 a w

theorem getB_keep {ns : List Nat} {nm : Nat} : ∀ {l : Boxes}, getB (keepB bx ns l) nm = if ns.contains nm = true then (getB l nm).map (fun b => { b with ver := 0, els := fixLL bx ns b.els }) else none
 | [] => by simp [keepB, getB]
 | (m, b) :: l => by
  simp only [keepB]
  split
  ·rename_i hm
   simp only [getB]
   split
   ·rename_i he; subst he; rw [if_pos hm]; rfl
   ·exact getB_keep
  ·rename_i hm
   rw [getB_keep]
   simp only [getB]
   split
   ·rename_i hn
    have : m ≠ nm := by rintro rfl; exact hm hn
    rw [if_neg this]
   ·rfl
theorem fixC_ok {ns : List Nat} {c : Cell} {v : Value} (h : RepM S w bm bx c v) : RepM S w bm (keepB bx ns bx) (fixC bx ns c) v := by
 have href : ∀ {nm ver : Nat} {Q : Box → Prop} {b : Box}, RefOk bx nm ver Q → getB bx nm = some b → b.ver = ver ∧ ns.contains nm = true → (∀ b', Q b → b'.e = b.e → b'.row = b.row → Q b') → RefOk (keepB bx ns bx) nm 0 Q := by
  intro nm ver Q b hr hb hc hq
  obtain ⟨b0, h1, h2, h3⟩ := hr
  rw [hb] at h1
  injection h1 with h1
  subst h1
  refine ⟨{ b with ver := 0, els := fixLL bx ns b.els }, by rw [getB_keep, if_pos hc.2, hb]; rfl, Nat.le_refl _, fun _ => hq _ (h3 hc.1) rfl rfl⟩
 cases h with
 | pure h =>
  have : fixC bx ns c = c := by cases h <;> rfl
  rw [this]
  exact .pure h
 | ms nm ver i n e x c hmap h1 h2 h3 h4 =>
  simp only [fixC]
  split
  ·rename_i b hb
   split
   ·rename_i hc
    exact .ms nm 0 i n e x c hmap h1 h2 h3 (href h4 hb hc fun b' hq he hr => ⟨he.trans hq.1, hr.trans hq.2.1, hq.2.2⟩)
   ·exact .bad rfl
  ·exact .bad rfl
 | fv nm ver i n e x c hmap h1 h2 h3 h4 =>
  simp only [fixC]
  split
  ·rename_i b hb
   split
   ·rename_i hc
    exact .fv nm 0 i n e x c hmap h1 h2 h3 (href h4 hb hc fun b' hq he hr => hq)
   ·exact .bad rfl
  ·exact .bad rfl
 | bad h => exact .bad h
 | mp nm ver k hmap h4 =>
  simp only [fixC]
  split
  ·rename_i b hb
   split
   ·rename_i hc
    exact .mp nm 0 k hmap (href h4 hb hc fun b' hq he hr => hq)
   ·exact .bad rfl
  ·exact .bad rfl
theorem fixP0_ok {ns : List Nat} {p : PV} {v : Value} (h : RepB0 S w bm bx p v) : RepB S w bm (keepB bx ns bx) (fixP0 bx ns p) v := by
 cases h with
 | one h => exact .one (fixC_ok h)
 | agg h => exact .agg (All2.map_left h fun _ _ h => fixC_ok h)
 | ref b o vs h1 h2 h3 => exact .ref b o vs h1 h2 h3
 | fn f => exact .fn f
 | ptr nm ver i off e k hmap h =>
  simp only [fixP0]
  split
  ·rename_i b hb
   split
   ·rename_i hc
    obtain ⟨b0, h1, h2, h3⟩ := h
    rw [hb] at h1
    injection h1 with h1
    subst h1
    exact .ptr nm 0 i off e k hmap ⟨{ b with ver := 0, els := fixLL bx ns b.els }, by rw [getB_keep, if_pos hc.2, hb]; rfl, Nat.le_refl _, fun _ => h3 hc.1⟩
   ·exact .undef _
  ·exact .undef _
theorem caps_fix {ns : List Nat} : ∀ {ps : List PV} {vs : List Value}, All2 (RepB0 S w bm bx) ps vs → (ps.map (fixP0 bx ns)).all capOk = true → All2 (RepB0 S w bm (keepB bx ns bx)) (ps.map (fixP0 bx ns)) vs
 | [], vs, h, _ => by cases h; exact .nil
 | p :: ps, vs, h, hc => by
  cases h with
  | cons h1 h2 =>
   simp only [List.map_cons, List.all_cons, Bool.and_eq_true] at hc
   exact .cons ((fixP0_ok h1).cap hc.1) (caps_fix h2 hc.2)
theorem fixP_ok {ns : List Nat} {p : PV} {v : Value} (h : RepV S w bm bx p v) : RepV S w bm (keepB bx ns bx) (fixP bx ns p) v := by
 cases h with
 | tup h => exact .base (.undef _)
 | base h => cases h with
  | undef => exact .base (.undef _)
  | skip => exact .base .skip
  | one h => exact .base (fixP0_ok (.one h))
  | agg h => exact .base (fixP0_ok (.agg h))
  | ref b o vs h1 h2 h3 => exact .base (fixP0_ok (.ref b o vs h1 h2 h3))
  | fn f => exact .base (.fn f)
  | ptr nm ver i off e k hmap h => exact .base (fixP0_ok (.ptr nm ver i off e k hmap h))
  | clo h =>
   simp only [fixP]
   split
   ·rename_i hc
    exact .base (.clo (caps_fix h hc))
   ·exact .base (.undef _)
theorem fix_pure {ns : List Nat} {c : Cell} (h : c.pureB = true) : fixC bx ns c = c := by cases c <;> first | rfl | (simp [Cell.pureB] at h)
theorem fixL_pure {ns : List Nat} {cs : List Cell} (h : pureL cs = true) : fixL bx ns cs = cs := by
 unfold fixL
 conv => rhs; rw [← List.map_id cs]
 refine List.map_congr_left fun c hc => ?_
 simp only [pureL, List.all_eq_true] at h
 exact fix_pure (h c hc)
theorem ents_fix {ns : List Nat} {e : Nat} {hd : List Cell} : ∀ {ls : List (List Cell)} {es : List MapEntry}, All2 (EntOk S w e hd) ls es → fixLL bx ns ls = ls
 | [], es, _ => rfl
 | l :: ls, es, h => by
  cases h with
  | cons h1 h2 =>
   obtain ⟨kx, vx, _, _, h3, _⟩ := h1
   have := ents_fix (ns := ns) h2
   simp only [fixLL, List.map_cons] at *
   rw [this, fixL_pure (pureL_of h3)]
theorem fixLL_flat {ns : List Nat} {els : List (List Cell)} : (fixLL bx ns els).flatten = els.flatten.map (fixC bx ns) := by
 simp only [fixLL]
 rw [List.map_flatten]
 rfl
theorem keep_ok (h : SimX G B ks w0 S0 S bm st a w) (kl ns : List Nat) : SimX G B ks w0 S0 S bm ⟨st.env.zipIdx.map fun (p, i) => if kl.contains i then fixP st.boxes ns p else .undef, keepB st.boxes ns st.boxes⟩ a w := by
 refine ⟨h.dfr, by simp [h.size], fun i p v hp hv => ?_, fun nm b hb => ?_, fun nm nm' b b' k C C' h1 h2 h3 h4 => ?_, h.below, h.base, h.mono, h.fresh, h.slt, h.glob, h.ksin⟩
 ·simp only [List.getElem?_map, List.getElem?_zipIdx] at hp
  cases hq : st.env[i]? with
  | none => simp [hq] at hp
  | some q =>
   simp only [hq, Option.map_some, Nat.zero_add] at hp
   have hs := h.slots i q v hq hv
   simp only [Option.some.injEq] at hp
   split at hp
   ·subst hp; exact fixP_ok hs
   ·subst hp; exact .base (.undef _)
 ·simp only at hb
  rw [getB_keep] at hb
  split at hb
  ·simp only [Option.map_eq_some_iff] at hb
   obtain ⟨b0, hb0, rfl⟩ := hb
   obtain ⟨hes, hpu, hB⟩ := h.boxes nm b0 hb0
   refine ⟨?_, fun hf => ?_, ?_⟩
   ·simp only [fixLL, List.mem_map]
    rintro hm l ⟨l', hl', rfl⟩
    simpa [fixL] using hes hm l' hl'
   ·have := hpu hf
    simp only [pureLL, pureL, List.all_eq_true] at this
    simp only [pureLL, pureL, List.all_eq_true, fixLL, List.mem_map]
    rintro l ⟨l', hl', rfl⟩ x hx
    simp only [fixL, List.mem_map] at hx
    obtain ⟨y, hy, rfl⟩ := hx
    have h1 := this l' hl' y hy
    cases y <;> first | exact h1 | (simp [Cell.pureB] at h1)
   ·cases hbm : bm nm with
    | none =>
     rw [hbm] at hB
     simp only at hB ⊢
     exact ⟨by simp [hB.1, fixLL], hB.2⟩
    | some kc =>
     obtain ⟨k, C⟩ := kc
     rw [hbm] at hB
     have hfl : (fixLL st.boxes ns b0.els).flatten.length = b0.els.flatten.length := by rw [fixLL_flat, List.length_map]
     refine ⟨hB.base, ⟨fun hm => ?_, fun hm => ?_⟩, fun hm => by simpa [fixLL] using hB.room hm, hB.cap, fun o hs => ?_, fun hf o ho => hB.held hf o (by simp only at ho; omega), hB.one⟩
     ·obtain ⟨arr, Ty, ha1, ha2, ha3⟩ := hB.blk hm
      refine ⟨arr, Ty, ha1, ha2, fun i c v hc hv => ?_⟩
      simp only at hc
      rw [fixLL_flat, List.getElem?_map] at hc
      cases hc0 : b0.els.flatten[i]? with
      | none => simp [hc0] at hc
      | some c0 =>
       simp only [hc0, Option.map_some, Option.some.injEq] at hc
       subst hc
       exact fixC_ok (ha3 i c0 v hc0 hv)
     ·obtain ⟨es, cl, hd, ls, g1, g2, g3, g4, g5⟩ := hB.blk0.2 hm
      refine ⟨es, cl, hd, ls, g1, ?_, g3, g4, g5⟩
      simp only
      rw [g2]
      have := ents_fix (bx := st.boxes) (ns := ns) g5
      simp only [fixLL, List.map_cons] at *
      rw [this, fixL_pure g3]
     ·have := hB.free o hs
      exact ⟨this.1, by simp only; omega⟩
  ·simp at hb
 ·have key : ∀ m c, getB (keepB st.boxes ns st.boxes) m = some c → ∃ c0, getB st.boxes m = some c0 := by
   intro m c hm
   rw [getB_keep] at hm
   split at hm
   ·simp only [Option.map_eq_some_iff] at hm
    obtain ⟨b0, hb0, _⟩ := hm
    exact ⟨b0, hb0⟩
   ·simp at hm
  obtain ⟨c1, g1⟩ := key nm b h1
  obtain ⟨c2, g2⟩ := key nm' b' h2
  exact h.inj nm nm' c1 c2 k C C' g1 g2 h3 h4
theorem nil_val {c : Cell} {v : Value} (hc : isNil c = true) (h : RepM S w bm bx c v) : ∃ x, v = .slice x 0 0 := by
 unfold isNil at hc
 split at hc
 ·have h := h.pureC rfl
  cases h
  exact ⟨_, rfl⟩
 ·simp at hc
theorem mk1_ok (h : Sim G B ks w0 S0 st a w) (x : Nat × Option Nat × Nat × Nat) : Sim G B ks w0 S0 (mk1 st x) a w := by
 obtain ⟨S, bm, h⟩ := h
 obtain ⟨i, oo, nm, e⟩ := x
 cases oo with
 | none =>
  simp only [mk1]
  split
  ·rename_i c hi
   split
   ·rename_i hc
    have hs := h.emptyBox nm hc.2.2.2 (b' := ⟨0, e, [], false, true⟩) (fun b hb => by rw [hc.2.1] at hb; cases hb) rfl rfl
    refine ⟨S, _, hs.dfr, by simp [hs.size], fun j p v hp hv => ?_, hs.boxes, hs.inj, hs.below, hs.base, hs.mono, hs.fresh, hs.slt, hs.glob, hs.ksin⟩
    simp only [List.getElem?_set] at hp
    by_cases hj : i = j
    ·subst hj
     have hil := getElem_pos hi
     simp only [if_true, hil] at hp
     injection hp with hp
     subst hp
     have hr := h.slots i _ v hi hv
     cases hr with
     | base hr => cases hr with
      | one hr =>
       obtain ⟨y, rfl⟩ := nil_val hc.1 hr
       exact .base (.one (ms_empty (b := ⟨0, e, [], false, true⟩) hc.2.2.2 rfl rfl (by simp) getB_self))
    ·simp only [hj, if_false] at hp
     exact hs.slots j p v hp hv
   ·exact ⟨S, bm, h⟩
  ·exact ⟨S, bm, h⟩
 | some o =>
  simp only [mk1]
  split
  ·rename_i b hb
   split
   ·rename_i cs hcs
    split
    ·rename_i c hc0
     split
     ·rename_i hc
      obtain ⟨hnil, hnone, he, hfz, hne, hmap, hmapi⟩ := hc
      have hs := h.emptyBox nm hmap (b' := ⟨0, e, [], false, true⟩) (fun b hb => by rw [hnone] at hb; cases hb) rfl rfl
      have hbi : getB (setB st.boxes nm ⟨0, e, [], false, true⟩) i = some b := by rw [getB_ne (Ne.symm hne)]; exact hb
      refine ⟨S, (fun m => if m = nm then none else bm m), ?_⟩
      have hrefs : RefsLe (fun m => if m = nm then none else bm m) (setB st.boxes nm ⟨0, e, [], false, true⟩) (fun m => if m = nm then none else bm m) (setB (setB st.boxes nm ⟨0, e, [], false, true⟩) i { b with els := [cs.set o (.ms nm 0 0 0 e)] }) := by
       intro m b0 hb0
       by_cases hm : i = m
       ·subst hm
        rw [hbi] at hb0
        injection hb0 with hb0
        subst hb0
        exact ⟨_, getB_self, Nat.le_refl _, fun _ => ⟨rfl, rfl, rfl⟩⟩
       ·exact ⟨b0, by rw [getB_ne hm]; exact hb0, Nat.le_refl _, fun _ => ⟨rfl, rfl, rfl⟩⟩
      refine hs.change hrefs (fun _ _ h => h) (fun _ _ _ => rfl) (Keeps.refl _ _ _) (fun _ _ h => .inl h) hs.slt (fun m b1 hb1 => ?_) (fun m m' b1 b2 k C C' h1 h2 h3 h4 => ?_)
      ·rw [getB_set] at hb1
       split at hb1
       ·rename_i hm
        subst hm
        simp at hb1
        subst hb1
        right
        obtain ⟨hes, hpu, hB⟩ := hs.boxes i b hbi
        refine ⟨fun hm l hl => by simp at hl; subst hl; rw [List.length_set]; exact hes hm cs (by simp [hcs]), fun hf => by simp only at hf; rw [hfz] at hf; simp at hf, ?_⟩
        simp only [hne, if_false] at hB ⊢
        cases hbm : bm i with
        | none => rw [hbm] at hB; simp [hcs] at hB
        | some kc =>
         obtain ⟨k, C⟩ := kc
         rw [hbm] at hB
         obtain ⟨arr, Ty, ha1, ha2, ha3⟩ := hB.blk hmapi
         refine ⟨hB.base, ⟨fun _ => ⟨arr, Ty, ha1, ha2, fun j c' v hc' hv => ?_⟩, fun hm => map_abs hm hmapi⟩, fun _ => by have := hB.room hmapi; simp [hcs] at this; simpa using this, hB.cap, fun q hq => ?_, fun hf => by simp only at hf; rw [hfz] at hf; simp at hf, hB.one⟩
         ·simp at hc'
          rw [List.getElem?_set] at hc'
          split at hc'
          ·rename_i hj
           subst hj
           have hol := getElem_pos hc0
           simp only [hol, if_true] at hc'
           injection hc' with hc'
           subst hc'
           obtain ⟨y, rfl⟩ := nil_val hnil (ha3 o c v (by rw [hcs]; simpa using hc0) hv)
           exact ms_empty (b := ⟨0, e, [], false, true⟩) hmap rfl rfl (by simp) (by rw [getB_ne hne]; exact getB_self)
          ·exact (ha3 j c' v (by rw [hcs]; simpa using hc') hv).mono (fun _ _ h => h) (fun _ _ _ => rfl) hrefs
         ·have := (hB.free q hq).1
          rw [hfz] at this
          simp at this
       ·exact .inl ⟨hb1, rfl, fun _ _ _ => ⟨rfl, fun _ h => h⟩⟩
      ·have key : ∀ m c, getB (setB (setB st.boxes nm ⟨0, e, [], false, true⟩) i { b with els := [cs.set o (.ms nm 0 0 0 e)] }) m = some c → ∃ c0, getB (setB st.boxes nm ⟨0, e, [], false, true⟩) m = some c0 := by
        intro m c hm
        rw [getB_set] at hm
        split at hm
        ·rename_i he; subst he; exact ⟨b, hbi⟩
        ·exact ⟨c, hm⟩
       obtain ⟨c1, g1⟩ := key m b1 h1
       obtain ⟨c2, g2⟩ := key m' b2 h2
       exact hs.inj m m' c1 c2 k C C' g1 g2 h3 h4
     ·exact ⟨S, bm, h⟩
    ·exact ⟨S, bm, h⟩
   ·exact ⟨S, bm, h⟩
  ·exact ⟨S, bm, h⟩
theorem mkAll_ok : ∀ (l : List (Nat × Option Nat × Nat × Nat)) {st : ASt}, Sim G B ks w0 S0 st a w → Sim G B ks w0 S0 (mkAll st l) a w
 | [], st, h => h
 | x :: l, st, h => mkAll_ok l (mk1_ok h x)
theorem ren1_ok (h : Sim G B ks w0 S0 st a w) (x : Nat × Option Nat × Nat × Nat) : Sim G B ks w0 S0 (ren1 st x) a w := by
 unfold ren1
 split
 ·rename_i i nm'
  split
  ·rename_i nm ver n e hi
   split
   ·rename_i b hb
    split
    ·rename_i hc
     obtain ⟨hv, hrow, hne, hlt, hlt'⟩ := hc
     have hmap : isMap nm = false := not_map (Nat.lt_of_lt_of_le hlt (by decide))
     have hmap' : isMap nm' = false := not_map (Nat.lt_of_lt_of_le hlt' (by decide))
     obtain ⟨S, bm, h⟩ := h
     have hrefs : RefsLe bm st.boxes (fun m => if m = nm then none else if m = nm' then bm nm else bm m) (setB (setB st.boxes nm' { b with ver := newVer st.boxes nm' }) nm ⟨b.ver + 1, b.e, [], false, true⟩) := by
      intro m b0 hb0
      by_cases hm : nm = m
      ·subst hm
       rw [hb] at hb0
       injection hb0 with hb0
       subst hb0
       exact ⟨_, getB_self, by simp, fun hq => by simp at hq⟩
      ·rw [getB_ne hm]
       by_cases hm' : nm' = m
       ·subst hm'
        refine ⟨_, getB_self, ?_, fun hq => ?_⟩
        ·simp [newVer, hb0]
        ·simp [newVer, hb0] at hq
       ·exact ⟨b0, by rw [getB_ne hm']; exact hb0, Nat.le_refl _, fun _ => ⟨rfl, rfl, by simp [Ne.symm hm, Ne.symm hm']⟩⟩
     have hs := h.change hrefs (fun _ _ h => h) (fun _ _ _ => rfl) (Keeps.refl _ _ _) (fun _ _ h => .inl h) h.slt (fun m b1 hb1 => by
      rw [getB_set] at hb1
      split at hb1
      ·rename_i hm
       subst hm
       simp at hb1
       subst hb1
       exact .inr ⟨by simp, by simp, by simp [hmap]⟩
      ·rename_i hm
       rw [getB_set] at hb1
       split at hb1
       ·rename_i hm'
        subst hm'
        simp at hb1
        subst hb1
        right
        obtain ⟨k1, k2, k3⟩ := h.boxes nm b hb
        refine ⟨fun _ => k1 hmap, k2, ?_⟩
        simp only [Ne.symm hm, if_false, if_true]
        cases hbm : bm nm with
        | none => rw [hbm] at k3; exact ⟨k3.1, k3.2.1, hmap'⟩
        | some kc =>
         obtain ⟨k, C⟩ := kc
         rw [hbm] at k3
         have k4 : BoxIn S w bm st.boxes B ks nm k C b := k3
         simp only [hbm] at hrefs
         obtain ⟨arr, Ty, ha1, ha2, ha3⟩ := k4.blk hmap
         refine ⟨.inl ⟨.inl hlt', ?_⟩, ⟨fun _ => ⟨arr, Ty, ha1, ha2, fun j c v hc hv => (ha3 j c v hc hv).mono (fun _ _ h => h) (fun _ _ _ => rfl) hrefs⟩, fun hm => map_abs hm hmap'⟩, fun _ => k4.room hmap, k4.cap, k4.free, k4.held, k4.one⟩
         rcases k4.base with h' | h'
         ·exact h'.2
         ·omega
       ·rename_i hm'
        exact .inl ⟨hb1, by simp [Ne.symm hm, Ne.symm hm'], fun _ _ _ => ⟨rfl, fun _ h => h⟩⟩) (fun m m' b1 b2 k C C' h1 h2 h3 h4 => by
      have key : ∀ m c kk, getB (setB (setB st.boxes nm' { b with ver := newVer st.boxes nm' }) nm ⟨b.ver + 1, b.e, [], false, true⟩) m = some c → (if m = nm then none else if m = nm' then bm nm else bm m) = some kk → (m = nm' ∧ bm nm = some kk) ∨ (m ≠ nm ∧ m ≠ nm' ∧ bm m = some kk ∧ getB st.boxes m = some c) := by
       intro m c kk hg hk
       by_cases hm : m = nm
       ·simp [hm] at hk
       ·by_cases hm' : m = nm'
        ·left
         subst hm'
         simp [hm] at hk
         exact ⟨rfl, hk⟩
        ·right
         simp only [hm, hm', if_false] at hk
         rw [getB_ne (Ne.symm hm), getB_ne (Ne.symm hm')] at hg
         exact ⟨hm, hm', hk, hg⟩
      rcases key m b1 _ h1 h3 with ⟨e1, e2⟩ | ⟨e1, e2, e3, e4⟩
      ·rcases key m' b2 _ h2 h4 with ⟨f1, f2⟩ | ⟨f1, f2, f3, f4⟩
       ·rw [e1, f1]
       ·exact absurd (h.inj nm m' b b2 k C C' hb f4 e2 f3).symm f1
      ·rcases key m' b2 _ h2 h4 with ⟨f1, f2⟩ | ⟨f1, f2, f3, f4⟩
       ·exact absurd (h.inj m nm b1 b k C C' e4 hb e3 f2) e1
       ·exact h.inj m m' b1 b2 k C C' e4 f4 e3 f3)
     refine ⟨S, _, hs.dfr, by simp [hs.size], fun j p v hp hv' => ?_, hs.boxes, hs.inj, hs.below, hs.base, hs.mono, hs.fresh, hs.slt, hs.glob, hs.ksin⟩
     simp only [List.getElem?_set] at hp
     by_cases hj : i = j
     ·subst hj
      have hil := getElem_pos hi
      simp only [if_true, hil] at hp
      injection hp with hp
      subst hp
      have hr := h.slots i _ v hi hv'
      cases hr with
      | base hr => cases hr with
       | one hr => cases hr with
        | pure hr => cases hr
        | ms _ _ _ _ _ x c hmap g1 g2 g3 g4 =>
         obtain ⟨b0, q1, q2, q3⟩ := g4
         rw [hb] at q1
         injection q1 with q1
         subst q1
         obtain ⟨r1, r2, r3⟩ := q3 hv
         refine .base (.one (.ms _ _ _ _ _ _ _ hmap' g1 g2 g3 ⟨{ b with ver := newVer st.boxes nm' }, by rw [getB_ne hne]; exact getB_self, Nat.le_refl _, fun _ => ⟨r1, r2, ?_⟩⟩))
         unfold Loc at r3 ⊢
         simp only [Ne.symm hne, if_false, if_true]
         simpa using r3
     ·simp only [hj, if_false] at hp
      exact hs.slots j p v hp hv'
    ·exact h
   ·exact h
  ·exact h
 ·exact h
theorem renAll_ok : ∀ (l : List (Nat × Option Nat × Nat × Nat)) {st : ASt}, Sim G B ks w0 S0 st a w → Sim G B ks w0 S0 (renAll st l) a w
 | [], st, h => h
 | x :: l, st, h => renAll_ok l (ren1_ok h x)
theorem forget_ok (h : Sim G B ks w0 S0 st a w) (k : Kp) : Sim G B ks w0 S0 (forget k st) a w := by
 obtain ⟨S, bm, h⟩ := renAll_ok k.nl h
 exact mkAll_ok _ ⟨S, bm, keep_ok h k.ks k.ns⟩
theorem iter_ok {c : Code} {f : ASt → Option (AE × ASt)} {k : Kp} {r : AE × ASt}
  (hf : ∀ st a w r, f st = some r → Sim G B ks w0 S0 st a w → c.wp P (Post G B ks w0 S0 r) a w) : ∀ (n : Nat) (st : ASt) (a : Act) (w : World), iter k f n st = some r → Sim G B ks w0 S0 st a w → Code.rounds P c (Post G B ks w0 S0 r) n a w
 | 0, st, a, w, hi, h => by simp [iter] at hi
 | n + 1, st, a, w, hi, h => by
  rw [rounds_succ]
  simp only [iter] at hi
  cases hr : f (forget k st) with
  | none => simp [hr] at hi
  | some r1 =>
   have h1 := hf _ a w r1 hr (forget_ok h _)
   obtain ⟨ae, st1⟩ := r1
   refine Code.wp_mono (fun e a' w' hp => ?_) h1
   obtain ⟨he, hs⟩ := hp
   cases ae with
   | normal =>
    simp only [AE.to] at he
    subst he
    rw [hr] at hi
    exact iter_ok hf n st1 a' w' hi hs
   | exit id =>
    rw [hr] at hi
    simp at hi
    subst hi
    simp only [AE.to] at he
    subst he
    exact ⟨rfl, hs⟩
   | ret =>
    rw [hr] at hi
    simp at hi
    subst hi
    simp only [AE.to] at he
    subst he
    exact ⟨rfl, hs⟩
end
end Go.Av
end
section
namespace Go.Av
open Go.RowKit
set_option linter.unusedVariables false
section
variable {tt : TT} {T : Tab} {G : Glob} {ops : List Oper} {env env' : Env} {bx bx' : Boxes}
theorem rd_congr {x : Operand} (h : ∀ t, x = .tmp t → env t = env' t) : rd G env x = rd G env' x := by
 cases x with
 | tmp t => simp [rd, h t rfl]
 | _ => rfl
theorem rds_congr : ∀ {l : List Operand}, (∀ x ∈ l, ∀ t, x = .tmp t → env t = env' t) → rds G env l = rds G env' l
 | [], _ => rfl
 | x :: l, h => by
  simp only [rds]
  rw [rd_congr (h x (by simp)), rds_congr fun y hy => h y (by simp [hy])]
theorem rdO_congr {x : Option Operand} (h : ∀ y, x = some y → ∀ t, y = .tmp t → env t = env' t) : rdO G env x = rdO G env' x := by
 cases x with
 | none => rfl
 | some y => simp only [rdO]; rw [rd_congr (h y rfl)]
theorem rdParts_congr : ∀ {l : List (Nat × Operand)}, (∀ x ∈ l, ∀ t, x.2 = .tmp t → env t = env' t) → rdParts G env l = rdParts G env' l
 | [], _ => rfl
 | (i, x) :: l, h => by
  simp only [rdParts]
  rw [rd_congr (h (i, x) (by simp)), rdParts_congr fun y hy => h y (by simp [hy])]
theorem mem_tmpsOf {l : List Operand} {t : Nat} (h : Operand.tmp t ∈ l) : t ∈ tmpsOf l := List.mem_filterMap.2 ⟨_, h, rfl⟩
theorem pureOp_congr {op : Op} (h : ∀ x ∈ op.operands.toList, ∀ t, x = .tmp t → env t = env' t) : pureOp tt G env op = pureOp tt G env' op := by
 cases op
 case move x => simp only [Op.operands] at h; simp only [pureOp]; rw [rd_congr (h x (by simp))]
 case assign x => simp only [Op.operands] at h; simp only [pureOp]; rw [rd_congr (h x (by simp))]
 case nilCheck x => simp only [Op.operands] at h; simp only [pureOp]; rw [rd_congr (h x (by simp))]
 case pick c x y =>
  simp only [Op.operands] at h
  simp only [pureOp]
  rw [rd_congr (h c (by simp))]
  split
  ·rename_i t _
   cases t
   ·exact rd_congr (h y (by simp))
   ·exact rd_congr (h x (by simp))
  ·rfl
 case build t parts =>
  simp only [pureOp]
  rw [rdParts_congr (l := parts.toList) fun x hx t ht => h x.2 (by simp [Op.operands]; exact ⟨x.1, by simpa using hx⟩) t ht]
 case binOp op t x y t' =>
  simp only [Op.operands] at h
  simp only [pureOp]
  rw [rd_congr (h x (by simp)), rd_congr (h y (by simp))]
 case unOp op t x =>
  simp only [Op.operands] at h
  cases op <;> simp only [pureOp] <;> rw [rd_congr (h x (by simp))]
 case convert s d x => simp only [Op.operands] at h; simp only [pureOp]; rw [rd_congr (h x (by simp))]
 case fieldAddr s x f => simp only [Op.operands] at h; simp only [pureOp]; rw [rd_congr (h x (by simp))]
 case field s x f => simp only [Op.operands] at h; simp only [pureOp]; rw [rd_congr (h x (by simp))]
 case indexAddr t x y =>
  simp only [Op.operands] at h
  simp only [pureOp]
  rw [rd_congr (h x (by simp)), rd_congr (h y (by simp))]
 case index t x y =>
  simp only [Op.operands] at h
  simp only [pureOp]
  rw [rd_congr (h x (by simp)), rd_congr (h y (by simp))]
 case slice t x lo hi mx =>
  cases mx with
  | some m => rfl
  | none =>
   have hx := rd_congr (G := G) (h x (by simp [Op.operands]))
   have hl := rdO_congr (G := G) (x := lo) (env := env) (env' := env') (fun y hy => h y (by subst hy; simp [Op.operands]))
   have hh := rdO_congr (G := G) (x := hi) (env := env) (env' := env') (fun y hy => h y (by subst hy; simp [Op.operands]))
   simp only [pureOp]
   rw [hx, hl, hh]
 case sliceToArrayPointer t x => simp only [Op.operands] at h; simp only [pureOp]; rw [rd_congr (h x (by simp))]
 case extract x n => simp only [Op.operands] at h; simp only [pureOp]; rw [rd_congr (h x (by simp))]
 case call c =>
  unfold pureOp
  split <;> try rfl
  all_goals first
   | (rename_i heq; cases heq; done)
   | skip
  ·rename_i x t heq
   injection heq with heq
   subst heq
   rw [rd_congr (h x (by simp [Op.operands, Call.operands]))]
  ·rename_i args ts heq
   injection heq with heq
   subst heq
   rw [rds_congr fun x hx => h x (by simp [Op.operands, Call.operands]; simpa using hx)]
  ·rename_i args ts heq
   injection heq with heq
   subst heq
   rw [rds_congr fun x hx => h x (by simp [Op.operands, Call.operands]; simpa using hx)]
 case makeFunc fn first caps =>
  simp only [Op.operands] at h
  cases fn with
  | func f =>
   simp only [pureOp]
   rw [rds_congr fun x hx => h x (by simp; right; simpa using hx)]
  | _ => rfl
 all_goals rfl

theorem viewC_local {c : Cell} (h : ∀ nm ∈ nmC c, getB bx nm = getB bx' nm) : viewC bx c = viewC bx' c := by
 cases c with
 | ms nm ver i n e => simp only [viewC]; rw [h nm (by simp [nmC])]
 | fv nm ver i n e => simp only [viewC]; rw [h nm (by simp [nmC])]
 | _ => rfl
theorem viewL_local : ∀ {cs : List Cell}, (∀ nm ∈ nmL cs, getB bx nm = getB bx' nm) → viewL bx cs = viewL bx' cs
 | [], _ => rfl
 | c :: cs, h => by
  simp only [viewL]
  rw [viewC_local fun nm hn => h nm (by simp only [nmL, List.flatMap_cons, List.mem_append]; exact .inl hn), viewL_local fun nm hn => h nm (by simp only [nmL, List.flatMap_cons, List.mem_append]; exact .inr hn)]
theorem newVer_local {nm : Nat} (h : getB bx nm = getB bx' nm) : newVer bx nm = newVer bx' nm := by simp only [newVer]; rw [h]
theorem frzL_local : ∀ {l : List Nat}, (∀ nm ∈ l, getB bx nm = getB bx' nm) → frzL bx l = frzL bx' l
 | [], _ => rfl
 | nm :: l, h => by
  simp only [frzL]
  rw [h nm (by simp), frzL_local fun m hm => h m (by simp [hm])]
theorem argK_local {p : PV} (h1 : ∀ nm ∈ nmK p, getB bx nm = getB bx' nm) : argK bx p = argK bx' p := by
 cases p with
 | one c => simp only [argK]; rw [viewC_local h1]
 | agg cs => simp only [argK]; rw [viewL_local h1]
 | ptr nm ver i off e =>
  have h3 := h1 nm (by simp [nmK])
  cases i with
  | succ i => rfl
  | zero => cases off with
   | succ off => rfl
   | zero => simp only [argK]; rw [h3]
 | _ => rfl
theorem argKs_local : ∀ {ps : List PV}, (∀ nm ∈ ps.flatMap nmK, getB bx nm = getB bx' nm) → argKs bx ps = argKs bx' ps
 | [], _ => rfl
 | p :: ps, h1 => by
  simp only [argKs]
  rw [argK_local (fun nm hn => h1 nm (by simp only [List.flatMap_cons, List.mem_append]; exact .inl hn)), argKs_local (fun nm hn => h1 nm (by simp only [List.flatMap_cons, List.mem_append]; exact .inr hn))]
theorem elsOf_local {c : Cell} (h : ∀ nm ∈ nmC c, getB bx nm = getB bx' nm) : elsOf bx c = elsOf bx' c := by
 unfold elsOf
 rw [viewC_local h]
theorem argP_local {p : PV} (h1 : ∀ nm ∈ nmP p, getB bx nm = getB bx' nm) (h2 : ∀ nm ∈ ioP p, getB bx nm = getB bx' nm) : argP bx p = argP bx' p := by
 cases p with
 | one c => simp only [argP]; rw [viewC_local h1]
 | agg cs => simp only [argP]; rw [viewL_local h1]
 | ptr nm ver i off e =>
  have h3 := h2 nm (by simp [ioP])
  cases i with
  | succ i => rfl
  | zero => cases off with
   | succ off => rfl
   | zero => simp only [argP]; rw [h3]
 | clo f ps => simp only [argP]; rw [argKs_local h1]
 | _ => rfl
theorem argPs_local : ∀ {ps : List PV}, (∀ nm ∈ ps.flatMap nmP, getB bx nm = getB bx' nm) → (∀ nm ∈ ps.flatMap ioP, getB bx nm = getB bx' nm) → argPs bx ps = argPs bx' ps
 | [], _, _ => rfl
 | p :: ps, h1, h2 => by
  simp only [argPs]
  rw [argP_local (fun nm hn => h1 nm (by simp only [List.flatMap_cons, List.mem_append]; exact .inl hn)) (fun nm hn => h2 nm (by simp only [List.flatMap_cons, List.mem_append]; exact .inl hn)),
   argPs_local (fun nm hn => h1 nm (by simp only [List.flatMap_cons, List.mem_append]; exact .inr hn)) (fun nm hn => h2 nm (by simp only [List.flatMap_cons, List.mem_append]; exact .inr hn))]
theorem ioOut_local : ∀ {l : List Nat} {outs : List (List Cell)}, (∀ nm ∈ l, getB bx nm = getB bx' nm) → ioOut bx l outs = ioOut bx' l outs
 | [], [], _ => rfl
 | [], _ :: _, _ => rfl
 | _ :: _, [], _ => rfl
 | nm :: l, cs :: r, h => by
  simp only [ioOut]
  rw [h nm (by simp), ioOut_local fun m hm => h m (by simp [hm])]
theorem landL_local {d : Nat} : ∀ {cs : List Cell} {k : Nat}, (∀ nm ∈ (landL bx d k cs).2.map (·.1), getB bx nm = getB bx' nm) → landL bx d k cs = landL bx' d k cs
 | [], k, _ => rfl
 | c :: cs, k, h => by
  cases c with
  | own e els =>
   simp only [landL] at h ⊢
   have h1 := newVer_local (h (d + 100000 * k) (by simp))
   rw [h1, landL_local fun nm hn => h nm (List.mem_cons_of_mem _ hn)]
  | _ => simp only [landL] at h ⊢; rw [landL_local h]
theorem landP_local {d k k' : Nat} {p q : PV} {bs : List (Nat × Box)} (hl : landP bx d k p = some (q, bs, k')) (h : ∀ nm ∈ bs.map (·.1), getB bx nm = getB bx' nm) : landP bx' d k p = some (q, bs, k') := by
 cases p with
 | one c =>
  simp only [landP] at hl ⊢
  split at hl <;> simp at hl
  rename_i c' bs' heq
  obtain ⟨rfl, rfl, rfl⟩ := hl
  have := landL_local (bx := bx) (bx' := bx') (d := d) (cs := [c]) (k := k) (by rw [heq]; exact h)
  rw [← this, heq]
 | agg cs =>
  simp only [landP] at hl ⊢
  simp at hl
  obtain ⟨rfl, rfl, rfl⟩ := hl
  rw [← landL_local h]
 | io cs =>
  simp only [landP] at hl ⊢
  simp at hl
  obtain ⟨rfl, rfl, rfl⟩ := hl
  rw [newVer_local (h (d + 100000 * k) (by simp))]
 | _ => simp [landP] at hl
theorem landPs_local {d : Nat} : ∀ {ps qs : List PV} {k : Nat} {bs : List (Nat × Box)}, landPs bx d k ps = some (qs, bs) → (∀ nm ∈ bs.map (·.1), getB bx nm = getB bx' nm) → landPs bx' d k ps = some (qs, bs)
 | [], qs, k, bs, hl, h => by simpa [landPs] using hl
 | p :: ps, qs, k, bs, hl, h => by
  simp only [landPs] at hl ⊢
  split at hl
  ·rename_i q b1 k' h1
   split at hl <;> simp at hl
   rename_i qs2 b2 h2
   obtain ⟨rfl, rfl⟩ := hl
   rw [landP_local h1 fun nm hn => h nm (by rw [List.map_append]; exact List.mem_append_left _ hn)]
   simp only
   rw [landPs_local h2 fun nm hn => h nm (by rw [List.map_append]; exact List.mem_append_right _ hn)]
  ·simp at hl
theorem landR_local {d : Nat} {r q : PV} {bs : List (Nat × Box)} (hl : landR bx d r = some (q, bs)) (h : ∀ nm ∈ bs.map (·.1), getB bx nm = getB bx' nm) : landR bx' d r = some (q, bs) := by
 unfold landR at hl ⊢
 split at hl
 ·split at hl <;> simp at hl
  rename_i qs b1 h1
  obtain ⟨rfl, rfl⟩ := hl
  rw [landPs_local h1 h]
 ·rename_i hnt
  split at hl <;> simp at hl
  rename_i q1 b1 k1 h1
  obtain ⟨rfl, rfl⟩ := hl
  rw [landP_local h1 h]
theorem viewEls_local : ∀ {l : List (Nat × PV)}, (∀ nm ∈ nmPs l, getB bx nm = getB bx' nm) → viewEls bx l = viewEls bx' l
 | [], _ => rfl
 | (i, p) :: l, h => by
  simp only [viewEls]
  rw [viewEls_local fun nm hn => h nm (by simp only [nmPs, List.flatMap_cons, List.mem_append]; exact .inr hn)]
  cases hc : p.cells with
  | none => rfl
  | some cs =>
   have hnm : nmP p = nmL cs := by
    cases p <;> simp [PV.cells] at hc
    ·subst hc; simp [nmP, nmL]
    ·subst hc; rfl
   have hv := viewL_local (bx := bx) (bx' := bx') (cs := cs) fun nm hn => h nm (by simp only [nmPs, List.flatMap_cons, List.mem_append]; left; rw [hnm]; exact hn)
   cases viewEls bx' l with
   | none => rfl
   | some r => simp only; rw [hv]
theorem tailOf_local {i : TK} {q : PV} (h : ∀ nm ∈ nmP q, getB bx nm = getB bx' nm) : tailOf bx i q = tailOf bx' i q := by
 cases q with
 | one c =>
  have := viewC_local (c := c) h
  unfold tailOf
  split <;> first | rfl | skip
  rename_i heq
  injection heq with heq
  subst heq
  simp only [elsOf]
  rw [this]
 | _ => rfl
theorem appendOp_local {j : TI} {d : Nat} {x : PV} {els' : List (List Cell)} {u : Upd} (hu : appendOp j d x els' bx = some u) (h : ∀ nm ∈ u.reads, getB bx nm = getB bx' nm) : appendOp j d x els' bx' = some u := by
 unfold appendOp at hu ⊢
 split at hu
 ·split at hu <;> simp at hu
  rename_i hc
  subst hu
  rw [if_pos hc, newVer_local (h d (by simp))]
 ·rename_i nm ver n e
  cases hb : getB bx nm with
  | none => rw [hb] at hu; simp at hu
  | some b =>
   rw [hb] at hu
   simp only at hu
   split at hu <;> simp at hu
   rename_i hc
   subst hu
   rw [← h nm (by simp), hb]
   simp only
   rw [if_pos hc]
 ·simp at hu
theorem copyOp_local {s : Nat} {d : Option Nat} {x : Cell} {els : List (List Cell)} {u : Upd} (hu : copyOp s d x els bx = some u) (h : ∀ nm ∈ u.reads, getB bx nm = getB bx' nm) : copyOp s d x els bx' = some u := by
 unfold copyOp at hu ⊢
 split at hu
 ·rename_i nm ver i n e
  cases hb : getB bx nm with
  | none => rw [hb] at hu; simp at hu
  | some b =>
   rw [hb] at hu
   simp only at hu
   split at hu
   case isFalse => simp at hu
   rename_i hc
   have hr : nm ∈ u.reads := by injection hu with hu; subst hu; simp
   rw [← h nm hr, hb]
   simp only
   rw [if_pos hc]
   exact hu
 ·rename_i nm ver i n e
  cases hb : getB bx nm with
  | none => rw [hb] at hu; simp at hu
  | some b =>
   rw [hb] at hu
   have hr : nm ∈ u.reads := by
    simp only at hu
    split at hu
    ·split at hu
     ·injection hu with hu; subst hu; simp
     ·simp at hu
    ·simp at hu
   rw [← h nm hr, hb]
   exact hu
 ·simp at hu
theorem callOp_local {d : Option Nat} {f : FuncId} {ps : List PV} {u : Upd} (hu : callOp T d f ps bx = some u) (h : ∀ nm ∈ u.reads, getB bx nm = getB bx' nm) : callOp T d f ps bx' = some u := by
 unfold callOp at hu ⊢
 split at hu
 ·rename_i F qs hF hqs
  split at hu
  ·rename_i r outs hr
   simp only at hu
   split at hu
   ·rename_i bo p bn hbo hland
    split at hu <;> simp only [Option.some.injEq, reduceCtorEq] at hu
    rename_i hc
    subst hu
    simp only at h
    have h1 : ∀ nm ∈ ps.flatMap nmP, getB bx nm = getB bx' nm := fun nm hn => h nm (by simp only [List.mem_append]; exact .inl (.inl hn))
    have h2 : ∀ nm ∈ ps.flatMap ioP, getB bx nm = getB bx' nm := fun nm hn => h nm (by simp only [List.mem_append]; exact .inl (.inr hn))
    have h3 : ∀ nm ∈ bn.map (·.1), getB bx nm = getB bx' nm := fun nm hn => h nm (by simp only [List.mem_append]; exact .inr hn)
    rw [hF, ← argPs_local h1 h2, hqs]
    simp only
    rw [hr]
    simp only
    rw [← ioOut_local h2, hbo, landR_local hland h3]
    simp only
    rw [if_pos hc, frzL_local h1]
   ·simp at hu
  ·simp at hu
 ·simp at hu
theorem eff_local {o : Oper} {u : Upd} (hu : eff tt T G o env bx = some u) (h : ∀ x ∈ o.op.operands.toList, ∀ t, x = .tmp t → env t = env' t) (hb : ∀ nm ∈ u.reads, getB bx nm = getB bx' nm) : eff tt T G o env' bx' = some u := by
 have hp := pureOp_congr (tt := tt) (G := G) h
 unfold eff at hu ⊢
 cases hop : o.op <;> rw [hop] at h hp hu <;> simp only [Op.operands] at h <;> simp only at hu ⊢
 case alloc t =>
  split at hu
  ·split at hu <;> simp at hu
   rename_i hc
   subst hu
   rename_i d _ hd _
   rw [if_pos hc, newVer_local (hb _ (by simp))]
  ·simp at hu
 case box t x =>
  rw [← rd_congr (h x (by simp))]
  split at hu
  ·split at hu
   case h_2 => simp at hu
   split at hu <;> simp at hu
   rename_i hc
   subst hu
   rw [if_pos hc, newVer_local (hb _ (by simp))]
  ·simp at hu
 case load t x =>
  rw [← rd_congr (h x (by simp))]
  split at hu
  ·exact hu
  ·rename_i i nm ver k off e hi hx
   cases hbb : getB bx nm with
   | none => rw [hbb] at hu; simp at hu
   | some b =>
    rw [hbb] at hu
    have hr : nm ∈ u.reads := by
     simp only at hu
     split at hu
     ·split at hu <;> simp at hu
      subst hu
      simp
     split at hu
     ·split at hu
      ·split at hu <;> simp at hu
       subst hu
       simp
      ·simp at hu
     ·simp at hu
    rw [← hb nm hr, hbb]
    exact hu
  ·simp at hu
 case store t x y =>
  rw [← rd_congr (h x (by simp)), ← rd_congr (h y (by simp))]
  split at hu
  ·rename_i i nm ver k off e p hi hx hy
   split at hu
   ·rename_i b ds hbb hds
    split at hu
    ·rename_i hc
     split at hu
     ·rename_i l hl
      split at hu
      ·rename_i hlen
       split at hu
       ·rename_i hrow
        split at hu
        ·rename_i us hus
         split at hu <;> simp only [Option.some.injEq, reduceCtorEq] at hu
         rename_i hnn
         subst hu
         simp only at hb
         have hb2 : ∀ m ∈ nmL ds, getB bx m = getB bx' m := fun m hm => hb m (by simp [hm])
         rw [← hb nm (by simp), hbb, hds]
         simp only
         rw [if_pos hc, hl]
         simp only
         rw [if_pos hlen, if_pos hrow, ← viewL_local hb2, hus]
         simp only
         rw [if_neg hnn, frzL_local hb2]
        ·simp at hu
       ·rename_i hrow
        simp at hu
        subst hu
        rw [← hb nm (by simp), hbb, hds]
        simp only
        rw [if_pos hc, hl]
        simp only
        rw [if_pos hlen, if_neg hrow]
      ·simp at hu
     ·simp at hu
    ·simp at hu
   ·simp at hu
  ·simp at hu
 case buildSlice t len parts =>
  rw [← rdParts_congr (l := parts.toList) (env := env) (env' := env') fun x hx t ht => h x.2 (by simp; exact ⟨x.1, by simpa using hx⟩) t ht]
  split at hu
  ·rename_i i ps d hi hps hd
   split at hu
   ·rename_i e hk
    split at hu
    ·rename_i j els hj hels
     split at hu <;> simp only [Option.some.injEq, reduceCtorEq] at hu
     rename_i hc
     subst hu
     simp only at hb
     have hb2 : ∀ m ∈ nmPs ps, getB bx m = getB bx' m := fun m hm => hb m (by simp [hm])
     rw [← viewEls_local hb2, hels, hj]
     simp only
     rw [if_pos hc, frzL_local hb2, newVer_local (hb d (by simp))]
    ·simp at hu
   ·simp at hu
  ·simp at hu
 case makeSlice t l c =>
  rw [← rd_congr (h l (by simp)), ← rd_congr (h c (by simp))]
  split at hu
  ·split at hu
   ·split at hu
    ·split at hu <;> simp at hu
     rename_i hc
     subst hu
     rw [if_pos hc, newVer_local (hb _ (by simp))]
    ·simp at hu
   ·simp at hu
  ·simp at hu
 case call c =>
  split at hu
  all_goals first
   | (rename_i heq; cases heq; done)
   | skip
  ·rename_i x y t t' heq
   injection heq with heq
   subst heq
   rw [← rd_congr (h x (by simp [Call.operands])), ← rd_congr (h y (by simp [Call.operands]))]
   split at hu
   ·rename_i i i' p q d hi hi' hp' hq hd
    split at hu
    ·rename_i e els' hk htl
     split at hu
     ·rename_i j hj
      split at hu
      ·rename_i hc
       split at hu <;> simp only [Option.some.injEq, reduceCtorEq] at hu
       rename_i u0 hu0
       subst hu
       simp only at hb
       rw [← tailOf_local (bx := bx) (bx' := bx') fun nm hn => hb nm (by simp [hn]), htl, hk]
       simp only
       rw [hj]
       simp only
       rw [if_pos hc, appendOp_local hu0 fun nm hn => hb nm (by simp [hn])]
      ·simp at hu
     ·simp at hu
    ·simp at hu
   ·simp at hu
  ·rename_i x y t t' heq
   injection heq with heq
   subst heq
   rw [← rd_congr (h x (by simp [Call.operands])), ← rd_congr (h y (by simp [Call.operands]))]
   split at hu
   ·rename_i i i' c0 q hi hi' hp' hq
    split at hu
    ·rename_i e els' hk htl
     split at hu
     ·rename_i s hs
      split at hu <;> simp only [Option.some.injEq, reduceCtorEq] at hu
      rename_i u0 hu0
      subst hu
      simp only at hb
      rw [← tailOf_local (bx := bx) (bx' := bx') fun nm hn => hb nm (by simp [hn]), htl, hk]
      simp only
      rw [hs]
      simp only
      rw [copyOp_local hu0 fun nm hn => hb nm (by simp [hn])]
     ·simp at hu
    ·simp at hu
   ·simp at hu
  ·rename_i g args ts heq
   injection heq with heq
   subst heq
   have hg : calleeF env g = calleeF env' g := by
    cases g with
    | tmp t => simp only [calleeF]; rw [h (.tmp t) (by simp [Call.operands]) t rfl]
    | _ => rfl
   rw [← hg, ← rds_congr (env := env) (env' := env') fun x hx => h x (by simp [Call.operands]; right; simpa using hx)]
   split at hu
   ·exact callOp_local hu hb
   ·simp at hu
  ·rename_i x t heq
   injection heq with heq
   subst heq
   rw [← rd_congr (h x (by simp [Call.operands]))]
   split at hu
   ·rename_i nm ver hx
    cases hbb : getB bx nm with
    | none => rw [hbb] at hu; simp at hu
    | some b =>
     rw [hbb] at hu
     have hr : nm ∈ u.reads := by
      try simp only at hu
      split at hu
      ·split at hu
       ·split at hu <;> simp only [Option.some.injEq, reduceCtorEq] at hu
        subst hu
        simp
       ·simp at hu
      ·simp at hu
     rw [← hb nm hr, hbb]
     exact hu
   ·rename_i hno
    rw [← hp]
    exact hu
  ·rw [← hp]; exact hu
 case makeMap t r =>
  cases r with
  | some x => rw [← hp]; exact hu
  | none =>
   simp only at hu ⊢
   split at hu
   ·split at hu
    ·split at hu
     ·split at hu <;> simp only [Option.some.injEq, reduceCtorEq] at hu
      rename_i hc
      subst hu
      rw [if_pos hc, newVer_local (hb _ (by simp))]
     ·simp at hu
    ·simp at hu
   ·simp at hu
 case lookup t x k ok =>
  rw [← rd_congr (h x (by simp)), ← rd_congr (h k (by simp))]
  split at hu
  ·rename_i i nm ver pk hi hx hk
   cases hbb : getB bx nm with
   | none => rw [hbb] at hu; simp at hu
   | some b =>
    rw [hbb] at hu
    have hr : nm ∈ u.reads := by
     try simp only at hu
     split at hu
     ·split at hu
      ·split at hu
       case isFalse => simp at hu
       split at hu <;> simp only [Option.some.injEq, reduceCtorEq] at hu
       subst hu
       simp
      ·simp at hu
     ·simp at hu
    rw [← hb nm hr, hbb]
    exact hu
  ·simp at hu
 case mapUpdate t x k v =>
  rw [← rd_congr (h x (by simp)), ← rd_congr (h k (by simp)), ← rd_congr (h v (by simp))]
  split at hu
  ·rename_i i nm ver pk pv hi hx hk hv
   split at hu
   ·rename_i kt et b kc vc hik hbb hkc hvc
    split at hu
    ·rename_i ki ei hd es us hki hei hels hus
     split at hu <;> simp only [Option.some.injEq, reduceCtorEq] at hu
     rename_i hc
     subst hu
     simp only at hb
     have hb2 : ∀ m ∈ nmL vc, getB bx m = getB bx' m := fun m hm => hb m (by simp [hm])
     rw [← hb nm (by simp), hbb, hkc, hvc, hik]
     simp only
     rw [hki, hei, hels, ← viewL_local hb2, hus]
     simp only
     rw [if_pos hc, frzL_local hb2]
    ·simp at hu
   ·simp at hu
  ·simp at hu
 case convert src dst x =>
  rw [← rd_congr (h x (by simp)), ← hp]
  split at hu
  ·rename_i i j c hi hj hx
   split at hu
   ·rename_i e hk hk2
    cases hels : elsOf bx c with
    | none => rw [hels] at hu; simp at hu
    | some els =>
     rw [hels] at hu
     have hr : ∀ nm ∈ nmC c, nm ∈ u.reads := by
      split at hu
      ·split at hu
       case isFalse => simp at hu
       split at hu <;> simp only [Option.some.injEq, reduceCtorEq] at hu
       subst hu
       simp
      ·simp at hu
     skip
     rw [← elsOf_local (bx := bx) (bx' := bx') fun nm hn => hb nm (hr nm hn), hels]
     exact hu
   ·rename_i e hk hk2
    skip
    exact hu
   ·exact hu
  ·simp at hu
 all_goals (rw [← hp]; exact hu)
end
end Go.Av
end
section
namespace Go.Av
open Go.RowKit
set_option linter.unusedVariables false
section
variable {tt : TT} {T : Tab} {G : Glob} {ops : List Oper}
theorem putD_slots {d : Option Nat} {p : PV} {x : Nat × PV} (h : x ∈ putD d p) : x.1 ∈ d.toList := by
 cases d with
 | none => simp [putD] at h
 | some d => simp [putD] at h; simp [h]
theorem eff_foot {env : Env} {o : Oper} {bx : Boxes} {u : Upd} (h : eff tt T G o env bx = some u) : ∀ x ∈ u.slots, x.1 ∈ wrS o := by
 unfold eff at h
 unfold wrS
 split at h
 ·split at h
  ·rename_i d _ hd
   split at h <;> simp at h
   subst h
   simp [hd]
  ·simp at h
 ·split at h
  ·rename_i d _ hd
   split at h
   case h_2 => simp at h
   split at h <;> simp at h
   subst h
   simp [hd]
  ·simp at h
 ·split at h
  ·split at h <;> simp at h
   subst h
   exact fun x hx => putD_slots hx
  ·split at h
   ·split at h
    ·split at h <;> simp at h
     subst h
     exact fun x hx => putD_slots hx
    split at h
    ·split at h
     ·split at h <;> simp at h
      subst h
      exact fun x hx => putD_slots hx
     ·simp at h
    ·simp at h
   ·simp at h
  ·simp at h
 ·split at h
  ·split at h
   ·split at h
    ·split at h
     ·split at h
      ·split at h
       ·split at h
        ·split at h <;> simp only [Option.some.injEq, reduceCtorEq] at h
         subst h
         simp
        ·simp at h
       ·simp at h
        subst h
        simp
      ·simp at h
     ·simp at h
    ·simp at h
   ·simp at h
  ·simp at h
 ·split at h
  ·rename_i d _ _ hd
   split at h
   ·split at h
    ·split at h <;> simp only [Option.some.injEq, reduceCtorEq] at h
     subst h
     simp [hd]
    ·simp at h
   ·simp at h
  ·simp at h
 ·split at h
  ·rename_i d _ _ _ hd
   split at h
   ·split at h
    ·split at h <;> simp at h
     subst h
     simp [hd]
    ·simp at h
   ·simp at h
  ·simp at h
 ·split at h
  ·rename_i d _ _ _ _ hd
   split at h
   ·split at h
    ·split at h
     ·split at h <;> simp only [Option.some.injEq, reduceCtorEq] at h
      rename_i u0 hu0
      subst h
      simp only
      unfold appendOp at hu0
      split at hu0
      ·split at hu0 <;> simp at hu0
       subst hu0
       simp [hd]
      ·split at hu0
       ·split at hu0 <;> simp at hu0
        subst hu0
        simp [hd]
       ·simp at hu0
      ·simp at hu0
     ·simp at h
    ·simp at h
   ·simp at h
  ·simp at h
 ·split at h
  ·split at h
   ·split at h
    ·split at h <;> simp only [Option.some.injEq, reduceCtorEq] at h
     rename_i u0 hu0
     subst h
     simp only
     unfold copyOp at hu0
     split at hu0
     ·split at hu0
      ·split at hu0
       ·injection hu0 with hu0
        subst hu0
        exact fun x hx => putD_slots hx
       ·simp at hu0
      ·simp at hu0
     ·split at hu0
      ·split at hu0
       ·split at hu0
        ·injection hu0 with hu0
         subst hu0
         exact fun x hx => putD_slots hx
        ·simp at hu0
       ·simp at hu0
      ·simp at hu0
     ·simp at hu0
    ·simp at h
   ·simp at h
  ·simp at h
 ·split at h
  ·unfold callOp at h
   split at h
   ·split at h
    ·simp only at h
     split at h
     ·split at h <;> simp only [Option.some.injEq, reduceCtorEq] at h
      subst h
      exact fun x hx => putD_slots hx
     ·simp at h
    ·simp at h
   ·simp at h
  ·simp at h
 ·split at h
  ·rename_i d _ hd
   split at h
   ·split at h
    ·split at h <;> simp only [Option.some.injEq, reduceCtorEq] at h
     subst h
     simp [hd]
    ·simp at h
   ·simp at h
  ·simp at h
 ·split at h
  ·split at h
   ·split at h
    ·split at h
     case isFalse => simp at h
     simp only at h
     split at h
     ·simp only [Option.some.injEq] at h
      subst h
      exact fun x hx => putD_slots hx
     ·simp at h
    ·simp at h
   ·simp at h
  ·simp at h
 ·split at h
  ·split at h
   ·split at h
    ·split at h <;> simp only [Option.some.injEq, reduceCtorEq] at h
     subst h
     simp
    ·simp at h
   ·simp at h
  ·simp at h
 ·split at h
  ·split at h
   ·split at h
    ·split at h
     case isFalse => simp at h
     split at h <;> simp only [Option.some.injEq, reduceCtorEq] at h
     subst h
     exact fun x hx => putD_slots hx
    ·simp at h
   ·split at h
    ·split at h <;> simp only [Option.some.injEq, reduceCtorEq] at h
     subst h
     exact fun x hx => putD_slots hx
    ·simp at h
   ·split at h <;> simp only [Option.some.injEq, reduceCtorEq] at h
    subst h
    exact fun x hx => putD_slots hx
  ·simp at h
 ·split at h
  ·split at h
   ·split at h
    ·split at h <;> simp only [Option.some.injEq, reduceCtorEq] at h
     subst h
     exact fun x hx => putD_slots hx
    ·simp at h
   ·simp at h
  ·split at h <;> simp only [Option.some.injEq, reduceCtorEq] at h
   subst h
   exact fun x hx => putD_slots hx
 ·split at h <;> simp at h
  subst h
  exact fun x hx => putD_slots hx
theorem step1_foot {st : ASt} {o : Oper} {u : Upd} (h : step1 tt T G ops o st = some u) : ∀ x ∈ u.slots, x.1 ∈ wrS o := by
 unfold step1 at h
 split at h
 ·exact eff_foot h
 ·simp at h
  subst h
  exact fun x hx => putD_slots hx
 ·simp at h
theorem goes_congr {env env' : Env} {o : Oper} (h : ∀ t ∈ rdS ops o, env t = env' t) : goes ops env o.guard = goes ops env' o.guard := by
 unfold goes
 cases hg : o.guard with
 | none => rfl
 | some gw =>
  obtain ⟨j, want⟩ := gw
  simp only
  cases hj : ops[j]? with
  | none => rfl
  | some o' =>
   simp only
   cases hd : o'.dst with
   | none => rfl
   | some d =>
    simp only
    rw [h d (by simp [rdS, hg, hj, hd])]
theorem step1_local {st st' : ASt} {o : Oper} {u : Upd} (hu : step1 tt T G ops o st = some u) (h : ∀ t ∈ rdS ops o, st.get t = st'.get t) (hb : ∀ nm ∈ u.reads, getB st.boxes nm = getB st'.boxes nm) : step1 tt T G ops o st' = some u := by
 unfold step1 at hu ⊢
 rw [← goes_congr h]
 split at hu
 ·exact eff_local hu (fun x hx t ht => h t (by subst ht; exact List.mem_append_left _ (mem_tmpsOf hx))) hb
 ·exact hu
 ·simp at hu

theorem set_setAll {ws : List (Nat × PV)} {env : List PV} {d : Nat} {p : PV} (h : ∀ x ∈ ws, x.1 ≠ d) : setAll (env.set d p) ws = (setAll env ws).set d p := by
 induction ws generalizing env with
 | nil => rfl
 | cons x ws ih =>
  obtain ⟨d', p'⟩ := x
  simp only [setAll]
  have hne : d' ≠ d := h (d', p') (by simp)
  rw [List.set_comm _ _ (fun e => hne e.symm), ih fun y hy => h y (by simp [hy])]
theorem setAll_comm {ws ws' : List (Nat × PV)} {env : List PV} (h : ∀ x ∈ ws, ∀ y ∈ ws', x.1 ≠ y.1) : setAll (setAll env ws) ws' = setAll (setAll env ws') ws := by
 induction ws generalizing env with
 | nil => rfl
 | cons x ws ih =>
  obtain ⟨d, p⟩ := x
  simp only [setAll]
  rw [ih fun y hy => h y (by simp [hy]), set_setAll fun y hy => fun e => h (d, p) (by simp) y hy e.symm]
theorem apart_spec {l m : List Nat} (h : apart l m = true) : ∀ x ∈ l, x ∉ m := by
 unfold apart at h
 intro x hx hm
 have := List.all_eq_true.1 h x hx
 simp [hm] at this

theorem setBs_set {n : Nat} {b : Box} : ∀ {l : List (Nat × Box)} {bx : Boxes}, (∀ x ∈ l, x.1 ≠ n) → setBs (setB bx n b) l = setB (setBs bx l) n b
 | [], bx, _ => rfl
 | (m, c) :: l, bx, h => by
  simp only [setBs]
  rw [setB_comm (h (m, c) (by simp)).symm, setBs_set fun x hx => h x (by simp [hx])]
theorem setBs_comm {l l' : List (Nat × Box)} {bx : Boxes} (h : ∀ x ∈ l, ∀ y ∈ l', x.1 ≠ y.1) : setBs (setBs bx l) l' = setBs (setBs bx l') l := by
 induction l generalizing bx with
 | nil => rfl
 | cons x l ih =>
  obtain ⟨n, b⟩ := x
  simp only [setBs]
  rw [ih fun y hy => h y (by simp [hy]), setBs_set fun y hy => (h (n, b) (by simp) y hy).symm]
theorem app_comm {u v : Upd} {st : ASt} (h1 : ∀ x ∈ u.slots, ∀ y ∈ v.slots, x.1 ≠ y.1) (h2 : ∀ x ∈ u.boxes, ∀ y ∈ v.boxes, x.1 ≠ y.1) : v.app (u.app st) = u.app (v.app st) := by
 unfold Upd.app
 simp only
 rw [setAll_comm h1, setBs_comm h2]
theorem setAll_length {ws : List (Nat × PV)} {env : List PV} : (setAll env ws).length = env.length := by
 induction ws generalizing env with
 | nil => rfl
 | cons x ws ih => obtain ⟨d, p⟩ := x; simp only [setAll]; rw [ih]; simp
theorem setAll_agree {ws : List (Nat × PV)} {e1 e2 : List PV} {t : Nat} (hl : e1.length = e2.length) (h : e1.getD t .undef = e2.getD t .undef) : (setAll e1 ws).getD t .undef = (setAll e2 ws).getD t .undef := by
 induction ws generalizing e1 e2 with
 | nil => exact h
 | cons x ws ih =>
  obtain ⟨d, p⟩ := x
  simp only [setAll]
  refine ih (by simpa using hl) ?_
  simp only [List.getD_eq_getElem?_getD, List.getElem?_set] at h ⊢
  by_cases hd : d = t
  ·simp only [hd, if_true, hl]
  ·simp only [hd, if_false]; exact h
theorem setAll_not {ws : List (Nat × PV)} {e : List PV} {t : Nat} (h : ∀ x ∈ ws, x.1 ≠ t) : (setAll e ws).getD t .undef = e.getD t .undef := by
 induction ws generalizing e with
 | nil => rfl
 | cons x ws ih =>
  obtain ⟨d, p⟩ := x
  simp only [setAll]
  rw [ih fun y hy => h y (by simp [hy])]
  simp only [List.getD_eq_getElem?_getD]
  rw [List.getElem?_set_ne (h (d, p) (by simp))]
theorem setBs_agree {l : List (Nat × Box)} {b1 b2 : Boxes} {nm : Nat} (h : getB b1 nm = getB b2 nm) : getB (setBs b1 l) nm = getB (setBs b2 l) nm := by
 induction l generalizing b1 b2 with
 | nil => exact h
 | cons x l ih =>
  obtain ⟨n, b⟩ := x
  simp only [setBs]
  refine ih ?_
  rw [getB_set, getB_set, h]

/-- some of the updates, in the text's order -/
def appD (D : Nat → Bool) : Nat → List Upd → ASt → ASt
 | _, [], st => st
 | k, u :: us, st => appD D (k + 1) us (if D k then u.app st else st)
theorem appD_congr {D D' : Nat → Bool} : ∀ {us : List Upd} {k : Nat} {st : ASt}, (∀ j, j < us.length → D (k + j) = D' (k + j)) → appD D k us st = appD D' k us st
 | [], k, st, _ => rfl
 | u :: us, k, st, h => by
  simp only [appD]
  have h0 := h 0 (by simp)
  simp only [Nat.add_zero] at h0
  rw [h0]
  exact appD_congr fun j hj => by have := h (j + 1) (by simpa using hj); rwa [show k + 1 + j = k + (j + 1) by omega]
theorem appD_shift {D : Nat → Bool} : ∀ {us : List Upd} {k : Nat} {st : ASt}, appD D (k + 1) us st = appD (fun j => D (j + 1)) k us st
 | [], k, st => rfl
 | u :: us, k, st => by simp only [appD]; exact appD_shift
theorem appD_slot {D D' : Nat → Bool} {t : Nat} : ∀ {us : List Upd} {k : Nat} {s1 s2 : ASt}, (∀ j u, us[j]? = some u → D (k + j) = D' (k + j) ∨ ∀ x ∈ u.slots, x.1 ≠ t) → s1.env.length = s2.env.length → s1.get t = s2.get t → (appD D k us s1).get t = (appD D' k us s2).get t
 | [], k, s1, s2, _, _, h => h
 | u :: us, k, s1, s2, h, hl, hg => by
  simp only [appD]
  refine appD_slot (fun j v hv => by have := h (j + 1) v (by simpa using hv); rwa [show k + 1 + j = k + (j + 1) by omega]) ?_ ?_
  ·split <;> split <;> simp [Upd.app, setAll_length, hl]
  ·have h0 := h 0 u rfl
   simp only [Nat.add_zero] at h0
   rcases h0 with h0 | h0
   ·rw [h0]
    split
    ·exact setAll_agree hl hg
    ·exact hg
   ·have : ∀ s : ASt, (u.app s).get t = s.get t := fun s => setAll_not h0
    split <;> split <;> (try rw [this]) <;> (try rw [this]) <;> exact hg
theorem appD_box {D D' : Nat → Bool} {nm : Nat} : ∀ {us : List Upd} {k : Nat} {s1 s2 : ASt}, (∀ j u, us[j]? = some u → D (k + j) = D' (k + j) ∨ ∀ x ∈ u.boxes, x.1 ≠ nm) → getB s1.boxes nm = getB s2.boxes nm → getB (appD D k us s1).boxes nm = getB (appD D' k us s2).boxes nm
 | [], k, s1, s2, _, h => h
 | u :: us, k, s1, s2, h, hg => by
  simp only [appD]
  refine appD_box (fun j v hv => by have := h (j + 1) v (by simpa using hv); rwa [show k + 1 + j = k + (j + 1) by omega]) ?_
  have h0 := h 0 u rfl
  simp only [Nat.add_zero] at h0
  rcases h0 with h0 | h0
  ·rw [h0]
   split
   ·exact setBs_agree hg
   ·exact hg
  ·have : ∀ s : ASt, getB (u.app s).boxes nm = getB s.boxes nm := fun s => getB_setBs h0
   split <;> split <;> (try rw [this]) <;> (try rw [this]) <;> exact hg
def Comm (u v : Upd) : Prop := (∀ x ∈ u.slots, ∀ y ∈ v.slots, x.1 ≠ y.1) ∧ ∀ x ∈ u.boxes, ∀ y ∈ v.boxes, x.1 ≠ y.1
theorem appD_push {D : Nat → Bool} {u : Upd} : ∀ {us : List Upd} {k : Nat} {st : ASt}, (∀ j v, us[j]? = some v → D (k + j) = true → Comm u v) → appD D k us (u.app st) = u.app (appD D k us st)
 | [], k, st, _ => rfl
 | v :: us, k, st, h => by
  simp only [appD]
  have h' : ∀ j w, us[j]? = some w → D (k + 1 + j) = true → Comm u w := fun j w hw hd => h (j + 1) w (by simpa using hw) (by rwa [show k + (j + 1) = k + 1 + j by omega])
  split
  ·rename_i hd
   have hc := h 0 v rfl (by simpa using hd)
   rw [app_comm hc.1 hc.2]
   exact appD_push h'
  ·exact appD_push h'
theorem appD_insert {D : Nat → Bool} : ∀ {us : List Upd} {k i : Nat} {u : Upd} {st : ASt}, us[i]? = some u → D (k + i) = false → (∀ j v, i < j → us[j]? = some v → D (k + j) = true → Comm u v) →
  appD (fun q => D q || q == k + i) k us st = u.app (appD D k us st)
 | [], k, i, u, st, hu, _, _ => by simp at hu
 | v :: us, k, 0, u, st, hu, hd, h => by
  simp at hu
  subst hu
  simp only [Nat.add_zero] at hd ⊢
  simp only [appD, beq_self_eq_true, Bool.or_true, if_true, hd, Bool.false_eq_true, if_false]
  rw [appD_congr (D' := D) fun j hj => by
   have : (k + 1 + j == k) = false := by simp; omega
   rw [this, Bool.or_false]]
  exact appD_push fun j w hw hdw => h (j + 1) w (by omega) (by simpa using hw) (by rwa [show k + (j + 1) = k + 1 + j by omega])
 | v :: us, k, i + 1, u, st, hu, hd, h => by
  simp only [appD]
  have h0 : (k == k + (i + 1)) = false := by simp
  simp only [h0, Bool.or_false]
  rw [show k + (i + 1) = k + 1 + i by omega]
  exact appD_insert (by simpa using hu) (by rwa [show k + 1 + i = k + (i + 1) by omega]) fun j w hj hw hdw => h (j + 1) w (by omega) (by simpa using hw) (by rwa [show k + (j + 1) = k + 1 + j by omega])

inductive Trace (tt : TT) (T : Tab) (G : Glob) (ops : List Oper) : List Oper → ASt → List Upd → ASt → Prop
 | nil {st} : Trace tt T G ops [] st [] st
 | cons {o l st u us st'} : step1 tt T G ops o st = some u → Trace tt T G ops l (u.app st) us st' → Trace tt T G ops (o :: l) st (u :: us) st'
theorem runU_trace : ∀ {l : List Oper} {st st' : ASt} {fs : List Foot}, runU tt T G ops l st = some (st', fs) → ∃ us, Trace tt T G ops l st us st' ∧ fs = us.map Upd.foot
 | [], st, st', fs, h => by simp [runU] at h; obtain ⟨rfl, rfl⟩ := h; exact ⟨[], .nil, rfl⟩
 | o :: l, st, st', fs, h => by
  simp only [runU] at h
  split at h
  ·rename_i u hu
   split at h <;> simp at h
   rename_i st2 fs2 h2
   obtain ⟨rfl, rfl⟩ := h
   obtain ⟨us, h3, rfl⟩ := runU_trace h2
   exact ⟨u :: us, .cons hu h3, rfl⟩
  ·simp at h
theorem Trace.length {l : List Oper} {st st' : ASt} {us : List Upd} (h : Trace tt T G ops l st us st') : us.length = l.length := by
 induction h with
 | nil => rfl
 | cons _ _ ih => simp [ih]
theorem Trace.fin {l : List Oper} {st st' : ASt} {us : List Upd} (h : Trace tt T G ops l st us st') : st' = appD (fun _ => true) 0 us st := by
 induction h with
 | nil => rfl
 | cons _ _ ih => rw [ih]; simp only [appD, if_true]; rw [appD_shift]
theorem Trace.at {l : List Oper} {st st' : ASt} {us : List Upd} (h : Trace tt T G ops l st us st') : ∀ {i : Nat} {o : Oper}, l[i]? = some o → ∃ u, us[i]? = some u ∧ step1 tt T G ops o (appD (fun j => decide (j < i)) 0 us st) = some u := by
 induction h with
 | nil => intro i o hi; simp at hi
 | cons hs ht ih =>
  rename_i o' l st u us st'
  intro i o hi
  cases i with
  | zero =>
   simp at hi
   subst hi
   refine ⟨u, rfl, ?_⟩
   have : ∀ (k : Nat) (us : List Upd) (s : ASt), appD (fun j => decide (j < 0)) k us s = s := by
    intro k us
    induction us generalizing k with
    | nil => intro s; rfl
    | cons v us ih => intro s; simp only [appD, Nat.not_lt_zero, decide_false, Bool.false_eq_true, if_false]; exact ih _ _
   rw [this]
   exact hs
  | succ i =>
   obtain ⟨v, h1, h2⟩ := ih (by simpa using hi)
   refine ⟨v, by simpa using h1, ?_⟩
   simp only [appD, Nat.zero_lt_succ, decide_true, if_true]
   rw [appD_shift]
   have : (fun j => decide (j + 1 < i + 1)) = fun j => decide (j < i) := by funext j; simp
   rw [this]
   exact h2

inductive Anc (ops : List Oper) : Nat → Nat → Prop
 | base {j i o} : ops[j]? = some o → i ∈ predsOf o → Anc ops j i
 | step {j k i o} : ops[j]? = some o → k ∈ predsOf o → Anc ops k i → Anc ops j i
def Closed (ops : List Oper) (D : Nat → Bool) : Prop := ∀ (j : Nat) o, D j = true → ops[j]? = some o → ∀ p ∈ predsOf o, D p = true
theorem Closed.anc {D : Nat → Bool} (h : Closed ops D) {j i : Nat} (ha : Anc ops j i) (hj : D j = true) : D i = true := by
 induction ha with
 | base ho hi => exact h _ _ hj ho _ hi
 | step ho hk _ ih => exact ih (h _ _ hj ho _ hk)
theorem foldl_bit {acc : List Nat} : ∀ (l : List Nat) (s i : Nat), (l.foldl (fun s i => s ||| (2 ^ i ||| acc.getD i 0)) s).testBit i = true → s.testBit i = true ∨ ∃ p ∈ l, i = p ∨ (acc.getD p 0).testBit i = true
 | [], s, i, h => .inl h
 | p :: l, s, i, h => by
  rcases foldl_bit l _ i h with h | ⟨q, hq, h⟩
  ·rw [Nat.testBit_or, Nat.testBit_or] at h
   simp only [Bool.or_eq_true] at h
   rcases h with h | h | h
   ·exact .inl h
   ·refine .inr ⟨p, by simp, .inl ?_⟩
    rw [Nat.testBit_two_pow] at h
    have := of_decide_eq_true h
    exact this.symm
   ·exact .inr ⟨p, by simp, .inr h⟩
  ·exact .inr ⟨q, by simp [hq], h⟩
theorem befL_ok : ∀ (l : List Oper) (acc : List Nat), (∀ k, l[k]? = ops[acc.length + k]?) → (∀ k i, (acc.getD k 0).testBit i = true → Anc ops k i) → ∀ k i, ((befL l acc).getD k 0).testBit i = true → Anc ops k i
 | [], acc, _, h => h
 | o :: l, acc, hl, h => by
  refine befL_ok l _ (fun k => ?_) (fun k i hk => ?_)
  ·have := hl (k + 1)
   simpa [Nat.add_assoc, Nat.add_comm 1 k] using this
  ·have h0 : ops[acc.length]? = some o := by simpa using (hl 0).symm
   simp only [List.getD_eq_getElem?_getD, List.getElem?_append] at hk
   split at hk
   ·exact h k i (by simpa [List.getD_eq_getElem?_getD] using hk)
   ·rename_i hge
    have hk0 : k = acc.length := by
     rcases Nat.lt_or_ge acc.length k with h' | h'
     ·have : (1 : Nat) ≤ k - acc.length := by omega
      rw [List.getElem?_eq_none (by simpa using this)] at hk
      simp at hk
     ·omega
    subst hk0
    simp at hk
    rcases foldl_bit (acc := acc) _ _ _ (by simpa [List.getD_eq_getElem?_getD] using hk) with h' | ⟨p, hp, h'⟩
    ·simp at h'
    ·rcases h' with rfl | h'
     ·exact .base h0 hp
     ·exact .step h0 hp (h p i h')

theorem drawOk_spec {fs : List Foot} (h : drawOk ops fs = true) {j : Nat} {o : Oper} (hj : ops[j]? = some o) : (∀ p ∈ predsOf o, p < j) ∧ ∃ f, fs[j]? = some f ∧ ∀ (i : Nat), i < j → ∀ o', ops[i]? = some o' → ∃ f', fs[i]? = some f' ∧ (Anc ops j i ∨ indep ops o' o f' f = true) := by
 unfold drawOk at h
 have hlt := getElem_pos hj
 have h1 := List.all_eq_true.1 h j (by simpa using hlt)
 cases hf : fs[j]? with
 | none => simp only [hj, hf] at h1; simp at h1
 | some f =>
  simp only [hj, hf, Bool.and_eq_true] at h1
  refine ⟨fun p hp => by simpa using List.all_eq_true.1 h1.1 p hp, f, rfl, fun i hi o' hi' => ?_⟩
  have h2 := List.all_eq_true.1 h1.2 i (by simpa using hi)
  cases hf' : fs[i]? with
  | none => simp only [hi', hf'] at h2; simp at h2
  | some f' =>
   simp only [hi', hf', Bool.or_eq_true] at h2
   exact ⟨f', rfl, h2.imp (fun h => befL_ok ops [] (by simp) (by simp) j i h) id⟩
theorem indep_spec {o o' : Oper} {f f' : Foot} (h : indep ops o o' f f' = true) :
  (∀ x ∈ wrS o, x ∉ rdS ops o') ∧ (∀ x ∈ wrS o, x ∉ wrS o') ∧ (∀ x ∈ wrS o', x ∉ rdS ops o) ∧ (∀ x ∈ f.2, x ∉ f'.1) ∧ (∀ x ∈ f.2, x ∉ f'.2) ∧ (∀ x ∈ f'.2, x ∉ f.1) := by
 unfold indep at h
 simp only [Bool.and_eq_true] at h
 obtain ⟨⟨⟨⟨⟨h1, h2⟩, h3⟩, h4⟩, h5⟩, h6⟩ := h
 exact ⟨apart_spec h1, apart_spec h2, apart_spec h3, apart_spec h4, apart_spec h5, apart_spec h6⟩
theorem closed_insert {D : Nat → Bool} (hc : Closed ops D) {i : Nat} (hp : ∀ o, ops[i]? = some o → ∀ p ∈ predsOf o, D p = true) : Closed ops fun k => D k || k == i := by
 intro j o hj ho p hpp
 simp only [Bool.or_eq_true, beq_iff_eq] at hj ⊢
 left
 rcases hj with hj | rfl
 ·exact hc j o hj ho p hpp
 ·exact hp o ho p hpp
def missing (n : Nat) (D : Nat → Bool) : Nat := (List.range n).countP fun k => !D k
theorem countP_insert {D : Nat → Bool} {i : Nat} : ∀ (l : List Nat), i ∈ l → D i = false → l.countP (fun k => !(D k || k == i)) < l.countP (fun k => !D k)
 | [], h, _ => by simp at h
 | x :: l, h, hD => by
  have hle : l.countP (fun k => !(D k || k == i)) ≤ l.countP (fun k => !D k) := List.countP_mono_left fun y _ hy => by simp at hy ⊢; exact hy.1
  by_cases hx : x = i
  ·subst hx
   simp only [List.countP_cons, hD]
   simp
   simp at hle
   omega
  ·have hm : i ∈ l := by simpa [Ne.symm hx] using h
   have ih := countP_insert l hm hD
   simp only [List.countP_cons]
   have : (x == i) = false := by simpa using hx
   simp only [this, Bool.or_false]
   omega
theorem missing_lt {n : Nat} {D : Nat → Bool} {i : Nat} (hi : i < n) (hD : D i = false) : missing n (fun k => D k || k == i) < missing n D := countP_insert _ (by simpa using hi) hD
theorem first_missing {n : Nat} {D : Nat → Bool} : (∀ k, k < n → D k = true) ∨ ∃ i, i < n ∧ D i = false ∧ ∀ k, k < i → D k = true := by
 induction n with
 | zero => exact .inl fun k hk => by omega
 | succ n ih =>
  rcases ih with h | ⟨i, h1, h2, h3⟩
  ·cases hn : D n with
   | true =>
    refine .inl fun k hk => ?_
    rcases Nat.lt_or_eq_of_le (Nat.le_of_lt_succ hk) with h' | h'
    ·exact h k h'
    ·rw [h']; exact hn
   | false => exact .inr ⟨n, by omega, hn, h⟩
  ·exact .inr ⟨i, by omega, h2, h3⟩

theorem full_app {D : Nat → Bool} {us : List Upd} {n : Nat} (hn : us.length = n) (h : ∀ k, k < n → D k = true) {st : ASt} : appD D 0 us st = appD (fun _ => true) 0 us st :=
 appD_congr fun j hj => by rw [Nat.zero_add]; exact h j (by omega)

/-- an operation whose turn it is does what it does in the text's order -/
theorem turn_ok {st0 stF : ASt} {us : List Upd} (ht : Trace tt T G ops ops st0 us stF) (hok : drawOk ops (us.map Upd.foot) = true) {D : Nat → Bool} (hc : Closed ops D) {i : Nat} {o : Oper} (hi : ops[i]? = some o) (hD : D i = false) (hp : ∀ p ∈ predsOf o, D p = true) :
  ∃ u, us[i]? = some u ∧ step1 tt T G ops o (appD D 0 us st0) = some u ∧ appD (fun q => D q || q == i) 0 us st0 = u.app (appD D 0 us st0) := by
 obtain ⟨u, hu, hs⟩ := ht.at hi
 have hf : ∀ {j : Nat} {v : Upd}, us[j]? = some v → (us.map Upd.foot)[j]? = some v.foot := fun hv => by rw [List.getElem?_map, hv]; rfl
 have hsl : ∀ {j : Nat} {v : Upd} {oj : Oper}, ops[j]? = some oj → us[j]? = some v → ∀ x ∈ v.slots, x.1 ∈ wrS oj := by
  intro j v oj hoj hv
  obtain ⟨v', h1, h2⟩ := ht.at hoj
  rw [hv] at h1
  injection h1 with h1
  subst h1
  exact step1_foot h2
 have hbx : ∀ {v : Upd}, ∀ x ∈ v.boxes, x.1 ∈ v.foot.2 := fun x hx => List.mem_map.2 ⟨x, hx, rfl⟩
 have hlen := ht.length
 have hop : ∀ {j : Nat} {v : Upd}, us[j]? = some v → ∃ oj, ops[j]? = some oj := by
  intro j v hv
  have hj := getElem_pos hv
  exact ⟨ops[j]'(by omega), by simp [show j < ops.length by omega]⟩
 -- the others that are not ordered with i
 have hrel : ∀ {j : Nat} {v : Upd}, us[j]? = some v → D j ≠ decide (j < i) → j ≠ i → ∃ oj, ops[j]? = some oj ∧ ((∀ x ∈ wrS oj, x ∉ rdS ops o) ∧ (∀ x ∈ v.foot.2, x ∉ u.foot.1)) := by
  intro j v hv hne hji
  obtain ⟨oj, hoj⟩ := hop hv
  refine ⟨oj, hoj, ?_⟩
  rcases Nat.lt_or_gt_of_ne hji with hlt | hgt
  ·have hDj : D j = false := by cases hd : D j with | false => rfl | true => rw [hd] at hne; simp [hlt] at hne
   obtain ⟨_, f, hf1, hf2⟩ := drawOk_spec hok hi
   obtain ⟨f', hf3, hf4⟩ := hf2 j hlt oj hoj
   rw [hf hu] at hf1
   rw [hf hv] at hf3
   injection hf1 with hf1
   injection hf3 with hf3
   subst hf1 hf3
   rcases hf4 with hanc | hind
   ·exfalso
    have : D j = true := by
     cases hanc with
     | base ho hm => rw [hi] at ho; injection ho with ho; subst ho; exact hp _ hm
     | step ho hk hrest => rw [hi] at ho; injection ho with ho; subst ho; exact hc.anc hrest (hp _ hk)
    rw [hDj] at this
    cases this
   ·obtain ⟨h1, h2, h3, h4, h5, h6⟩ := indep_spec hind
    exact ⟨h1, h4⟩
  ·have hDj : D j = true := by cases hd : D j with | true => rfl | false => rw [hd] at hne; simp at hne; omega
   obtain ⟨_, f, hf1, hf2⟩ := drawOk_spec hok hoj
   obtain ⟨f', hf3, hf4⟩ := hf2 i hgt o hi
   rw [hf hv] at hf1
   rw [hf hu] at hf3
   injection hf1 with hf1
   injection hf3 with hf3
   subst hf1 hf3
   rcases hf4 with hanc | hind
   ·exfalso
    have := hc.anc hanc hDj
    rw [hD] at this
    cases this
   ·obtain ⟨h1, h2, h3, h4, h5, h6⟩ := indep_spec hind
    exact ⟨h3, h6⟩
 refine ⟨u, hu, step1_local hs (fun t htt => appD_slot (fun j v hv => ?_) rfl rfl) (fun nm hn => appD_box (fun j v hv => ?_) rfl), ?_⟩
 ·rw [Nat.zero_add]
  by_cases hji : j = i
  ·subst hji
   left
   rw [hD]
   simp
  ·by_cases hne : D j = decide (j < i)
   ·exact .inl hne.symm
   ·right
    obtain ⟨oj, hoj, h1, _⟩ := hrel hv hne hji
    intro x hx he
    exact h1 x.1 (hsl hoj hv x hx) (he ▸ htt)
 ·rw [Nat.zero_add]
  by_cases hji : j = i
  ·subst hji
   left
   rw [hD]
   simp
  ·by_cases hne : D j = decide (j < i)
   ·exact .inl hne.symm
   ·right
    obtain ⟨oj, hoj, _, h1⟩ := hrel hv hne hji
    intro x hx he
    exact h1 x.1 (hbx x hx) (he ▸ hn)
 ·have := appD_insert (D := D) (us := us) (k := 0) (i := i) (u := u) (st := st0) hu (by rw [Nat.zero_add]; exact hD) (fun j v hij hv hDj => by
   rw [Nat.zero_add] at hDj
   obtain ⟨oj, hoj⟩ := hop hv
   obtain ⟨_, f, hf1, hf2⟩ := drawOk_spec hok hoj
   obtain ⟨f', hf3, hf4⟩ := hf2 i hij o hi
   rw [hf hv] at hf1
   rw [hf hu] at hf3
   injection hf1 with hf1
   injection hf3 with hf3
   subst hf1 hf3
   rcases hf4 with hanc | hind
   ·exfalso
    have := hc.anc hanc hDj
    rw [hD] at this
    cases this
   ·obtain ⟨h1, h2, h3, h4, h5, h6⟩ := indep_spec hind
    exact ⟨fun x hx y hy he => h2 x.1 (hsl hi hu x hx) (he ▸ hsl hoj hv y hy), fun x hx y hy he => h5 x.1 (hbx x hx) (he ▸ hbx y hy)⟩)
  rw [Nat.zero_add] at this
  exact this
end

section
variable {P : Program} {tt : TT} {T : Tab} {G : Glob} {ops : List Oper} {B : Nat} {ks : List Nat} {w0 : World} {S0 : Nat → Nat → Prop} {Q : Exit → Act → World → Prop}
theorem mem_ready {listed : Array Bool} {i : Nat} : i ∈ Region.ready .any ops.toArray listed ↔ i < ops.length ∧ listed.getD i true = false ∧ ∀ o, ops[i]? = some o → ∀ p ∈ predsOf o, listed.getD p false = true := by
 unfold Region.ready
 simp only [List.mem_filter, List.mem_range, List.size_toArray, Bool.and_eq_true, Bool.not_eq_true', List.getElem?_toArray]
 constructor
 ·rintro ⟨h1, h2, h3⟩
  refine ⟨h1, h2, fun o ho p hp => ?_⟩
  rw [ho] at h3
  simp only [Option.map_some, Option.getD_some] at h3
  unfold predsOf at hp
  simp only [List.mem_map, List.mem_filter] at hp
  obtain ⟨e, ⟨he, hb⟩, rfl⟩ := hp
  rw [Array.all_eq_true_iff_forall_mem] at h3
  have := h3 e (by simpa using he)
  simpa [hb] using this
 ·rintro ⟨h1, h2, h3⟩
  refine ⟨h1, h2, ?_⟩
  have ho : ops[i]? = some ops[i] := by simp [h1]
  rw [ho]
  simp only [Option.map_some, Option.getD_some]
  rw [Array.all_eq_true_iff_forall_mem]
  intro e he
  cases hb : Region.binds .any e with
  | false => simp
  | true =>
   have := h3 _ ho e.on (List.mem_map.2 ⟨e, List.mem_filter.2 ⟨by simpa using he, hb⟩, rfl⟩)
   simpa using this

theorem any_ok (htt : ∀ t i, tt t = some i → tinfo P t = some i) (hT : ∀ f F, T f = some F → Impl P G (f % 1000000) F) {st0 stF : ASt} {us : List Upd} (ht : Trace tt T G ops ops st0 us stF) (hok : drawOk ops (us.map Upd.foot) = true) (hq : ∀ a w, Sim G B ks w0 S0 stF a w → Q .normal a w) :
  ∀ (fuel : Nat) (listed : Array Bool) (a : Act) (w : World), listed.size = ops.length → Closed ops (fun k => listed.getD k false) → missing ops.length (fun k => listed.getD k false) ≤ fuel →
   Sim G B ks w0 S0 (appD (fun k => listed.getD k false) 0 us st0) a w → wpAny P .any ops.toArray Q fuel listed a w := by
 have hdone : ∀ (listed : Array Bool) (a : Act) (w : World), listed.size = ops.length → Closed ops (fun k => listed.getD k false) → Region.ready .any ops.toArray listed = [] →
   Sim G B ks w0 S0 (appD (fun k => listed.getD k false) 0 us st0) a w → Q .normal a w := by
  intro listed a w hsz hc hr hs
  rcases first_missing (n := ops.length) (D := fun k => listed.getD k false) with h | ⟨i, h1, h2, h3⟩
  ·rw [full_app ht.length h, ← ht.fin] at hs
   exact hq a w hs
  ·have : i ∈ Region.ready .any ops.toArray listed := mem_ready.2 ⟨h1, by
    have hlt : i < listed.size := by omega
    simpa [Array.getD, hlt] using h2, fun o ho p hp => h3 p ((drawOk_spec hok ho).1 p hp)⟩
   rw [hr] at this
   simp at this
 intro fuel
 induction fuel with
 | zero =>
  intro listed a w hsz hc hm hs
  have hall : ∀ k, k < ops.length → listed.getD k false = true := by
   rcases first_missing (n := ops.length) (D := fun k => listed.getD k false) with h | ⟨i, h1, h2, h3⟩
   ·exact h
   ·have := missing_lt (D := fun k => listed.getD k false) h1 h2; omega
  have hr : Region.ready .any ops.toArray listed = [] := by
   apply List.eq_nil_iff_forall_not_mem.2
   intro i hi
   obtain ⟨h1, h2, _⟩ := mem_ready.1 hi
   have := hall i h1
   have hlt : i < listed.size := by omega
   simp [Array.getD, hlt] at this h2
   rw [this] at h2
   simp at h2
  exact ⟨hr, hdone listed a w hsz hc hr hs⟩
 | succ fuel ih =>
  intro listed a w hsz hc hm hs
  refine ⟨fun hr => hdone listed a w hsz hc hr hs, fun i hi => ?_⟩
  obtain ⟨h1, h2, h3⟩ := mem_ready.1 hi
  have hlt : i < listed.size := by omega
  have hDi : listed.getD i false = false := by simpa [Array.getD, hlt] using h2
  have hfun : (fun k => (listed.setIfInBounds i true).getD k false) = fun k => listed.getD k false || k == i := by
   funext k
   simp only [Array.getD_eq_getD_getElem?, Array.getElem?_setIfInBounds]
   by_cases hk : i = k
   ·subst hk; simp [hlt]
   ·have : (k == i) = false := by simpa using fun e => hk e.symm
    simp [hk, this]
  have hc' : Closed ops (fun k => (listed.setIfInBounds i true).getD k false) := by
   rw [hfun]
   exact closed_insert hc h3
  have ho : ops[i]? = some ops[i] := by simp [h1]
  obtain ⟨u, hu, hst, hins⟩ := turn_ok ht hok hc ho hDi (h3 _ ho)
  have h1' := step1_ok (Q := Q) htt hT hs hst
  unfold wpOp
  simp only [List.getElem?_toArray, ho]
  have hnext : ∀ a' w', Sim G B ks w0 S0 (u.app (appD (fun k => listed.getD k false) 0 us st0)) a' w' → wpAny P .any ops.toArray Q fuel (listed.setIfInBounds i true) a' w' := by
   intro a' w' hs'
   refine ih _ a' w' (by simpa using hsz) hc' ?_ ?_
   ·rw [hfun]
    have := missing_lt (D := fun k => listed.getD k false) h1 hDi
    omega
   ·rw [hfun, hins]
    exact hs'
  split
  ·rename_i hw
   rw [if_pos hw] at h1'
   exact .inl (Oper.wp_mono hnext h1')
  ·rename_i hw
   rw [if_neg hw] at h1'
   exact hnext _ _ h1'
end
end Go.Av
end
section
namespace Go.Av
open Go.RowKit
set_option linter.unusedVariables false
section
variable {P : Program} {tt : TT} {T : Tab} {G : Glob} {kp : Keep} {n : Nat} {B : Nat} {ks : List Nat} {w0 : World} {S0 S S' : Nat → Nat → Prop} {bm bm' : BM} {bx : Boxes} {st st' : ASt} {a : Act} {w w' : World} {Q : Exit → Act → World → Prop}
theorem exec_ok (hm : P.follows .mixedOrders = true) (htt : ∀ t i, tt t = some i → tinfo P t = some i) (hT : ∀ f F, T f = some F → Impl P G (f % 1000000) F) :
  ∀ (c : Code) (st : ASt) (a : Act) (w : World) (r : AE × ASt), exec tt T G kp n c st = some r → Sim G B ks w0 S0 st a w → c.wp P (Post G B ks w0 S0 r) a w := by
 intro c
 induction c with
 | skip => intro st a w r h hs; simp [exec] at h; subst h; exact wp_skip ⟨rfl, hs⟩
 | region id ops draw =>
  intro st a w r h hs
  simp only [exec] at h
  cases draw with
  | false =>
   simp only [Bool.false_eq_true, if_false] at h
   split at h <;> simp at h
   rename_i st' hr
   subst h
   have := runL_ok (Q := Post G B ks w0 S0 (.normal, st')) htt hT hs hr (fun a w hs => ⟨rfl, hs⟩)
   rw [Array.toArray_toList] at this
   exact wp_region_list this
  | true =>
   simp only [if_true] at h
   split at h
   ·rename_i st' fs hr
    split at h <;> simp at h
    rename_i hd
    subst h
    obtain ⟨us, ht, rfl⟩ := runU_trace hr
    refine wp_region_any hm ?_
    have hs' : Sim G B ks w0 S0 st a w.drew := by obtain ⟨S, bm, hs⟩ := hs; exact ⟨S, bm, hs.drew⟩
    have hno : (fun k => (Array.replicate ops.size false).getD k false) = fun _ => false := by
     funext k
     simp [Array.getD_eq_getD_getElem?, Array.getElem?_replicate]
     split <;> rfl
    have hnone : ∀ (k : Nat) (us : List Upd) (s : ASt), appD (fun _ => false) k us s = s := by
     intro k us
     induction us generalizing k with
     | nil => intro s; rfl
     | cons v us ih => intro s; simp only [appD, Bool.false_eq_true, if_false]; exact ih _ _
    have := any_ok (Q := Post G B ks w0 S0 (.normal, st')) htt hT ht hd (fun a w hs => ⟨rfl, hs⟩) ops.size (Array.replicate ops.size false) a w.drew (by simp) ?_ ?_ ?_
    ·rw [Array.toArray_toList] at this
     exact this
    ·intro j o hj
     simp [Array.getD_eq_getD_getElem?, Array.getElem?_replicate] at hj
     split at hj <;> simp at hj
    ·unfold missing
     exact Nat.le_trans List.countP_le_length (by simp)
    ·rw [hno, hnone]
     exact hs'
   ·simp at h
 | seq x y ihx ihy =>
  intro st a w r h hs
  simp only [exec] at h
  cases hx : exec tt T G kp n x st with
  | none => simp [hx] at h
  | some r1 =>
   obtain ⟨ae, st1⟩ := r1
   refine wp_seq (Code.wp_mono (fun e a' w' hp => ?_) (ihx st a w _ hx hs))
   obtain ⟨he, hs1⟩ := hp
   rw [hx] at h
   cases ae with
   | normal => simp only [AE.to] at he; subst he; exact ihy st1 a' w' r h hs1
   | exit id => simp at h; subst h; simp only [AE.to] at he; subst he; exact ⟨rfl, hs1⟩
   | ret => simp at h; subst h; simp only [AE.to] at he; subst he; exact ⟨rfl, hs1⟩
 | cond x y z ihy ihz =>
  intro st a w r h hs
  simp only [exec] at h
  split at h
  ·rename_i t hx
   have he : a.eval x = .bool t := by
    obtain ⟨S, bm, hs⟩ := hs
    exact hs.evalV hx
   refine wp_cond he ?_
   cases t with
   | true => exact ihy st a w r (by simpa using h) hs
   | false => exact ihz st a w r (by simpa using h) hs
  ·simp at h
 | block id c ih =>
  intro st a w r h hs
  simp only [exec] at h
  cases hx : exec tt T G kp n c st with
  | none => simp [hx] at h
  | some r1 =>
   obtain ⟨ae, st1⟩ := r1
   refine wp_block (Code.wp_mono (fun e a' w' hp => ?_) (ih st a w _ hx hs))
   obtain ⟨he, hs1⟩ := hp
   rw [hx] at h
   cases ae with
   | normal => simp at h; subst h; simp only [AE.to] at he; subst he; exact ⟨rfl, hs1⟩
   | exit id' =>
    simp only [AE.to] at he
    subst he
    simp only [Exit.inBlock]
    simp only at h
    split
    ·rename_i hid
     rw [if_pos hid] at h
     simp at h
     subst h
     exact ⟨rfl, hs1⟩
    ·rename_i hid
     rw [if_neg hid] at h
     simp at h
     subst h
     exact ⟨rfl, hs1⟩
   | ret => simp at h; subst h; simp only [AE.to] at he; subst he; exact ⟨rfl, hs1⟩
 | loop c ih =>
  intro st a w r h hs
  simp only [exec] at h
  exact wp_loop_rounds n (iter_ok (fun st a w r hf hs => ih st a w r hf hs) n st a w h hs)
 | exit id => intro st a w r h hs; simp [exec] at h; subst h; exact wp_exit ⟨rfl, hs⟩
 | ret => intro st a w r h hs; simp [exec] at h; subst h; exact wp_ret ⟨rfl, hs⟩
 | rangeFunc => intro st a w r h hs; simp [exec] at h
 | scope => intro st a w r h hs; simp [exec] at h
 | label => intro st a w r h hs; simp [exec] at h
 | goto => intro st a w r h hs; simp [exec] at h
 | refuse => intro st a w r h hs; simp [exec] at h


def resV (tmps : Array Value) : ResultVar → Sem Value
 | .tmp t => pure (tmps.getD t undef)
 | .cell a t => do loadVar t (← asAddr (tmps.getD a undef))
theorem results_eq (fn : Func) (tmps : Array Value) : results fn tmps = (fn.results.mapM (resV tmps) >>= fun vs => pure (if h : vs.size = 1 then vs[0] else .tuple vs)) := by
 unfold results
 congr 1
theorem loadRes_ok (htt : ∀ t i, tt t = some i → tinfo P t = some i) (h : SimX G B ks w0 S0 S bm st a w) {x : ResultVar} {p : PV} (hp : loadRes tt st x = some p) :
  ∃ v, (resV a.tmps x).run P w = .ok v w ∧ RepV S w bm st.boxes p v := by
 cases x with
 | tmp t =>
  simp [loadRes] at hp
  subst hp
  exact ⟨_, rfl, h.slot t⟩
 | cell b t =>
  simp only [loadRes] at hp
  split at hp
  ·rename_i i nm ver k off e hi hx
   split at hp
   ·rename_i bb hb
    split at hp
    ·rename_i hc
     split at hp
     ·rename_i l hl
      have hs := h.slot b
      rw [hx] at hs
      simp only [resV]
      generalize a.tmps.getD b undef = v at hs ⊢
      cases hs with
      | base hs => cases hs with
       | ptr _ _ _ _ _ kk hmap hk =>
        obtain ⟨b', q1, q2, q3⟩ := hk
        rw [hb] at q1
        injection q1 with q1
        subst q1
        obtain ⟨_, C, hbm⟩ := q3 hc.1
        obtain ⟨vs, hl1, hl2⟩ := h.lies hmap hb hbm hl
        obtain ⟨v, hv, hr⟩ := run_loadVar_part (P := P) (bm := bm) (bx := st.boxes) (tinfo_spec (htt _ _ hi)) hl2 hl1 hp
        have he : k * e = k * bb.e := by
         rcases hc.2 with rfl | h'
         ·simp
         ·rw [h']
        refine ⟨v, ?_, .base hr⟩
        rw [he]
        simpa [asAddr] using hv
     ·simp at hp
    ·simp at hp
   ·simp at hp
  ·simp at hp
theorem loadAll_ok (htt : ∀ t i, tt t = some i → tinfo P t = some i) (h : SimX G B ks w0 S0 S bm st a w) : ∀ {l : List ResultVar} {ps : List PV}, loadAll tt st l = some ps →
  ∃ vs : List Value, (l.mapM (resV a.tmps)).run P w = .ok vs w ∧ All2 (RepV S w bm st.boxes) ps vs
 | [], ps, hp => by simp [loadAll] at hp; subst hp; exact ⟨[], rfl, .nil⟩
 | x :: l, ps, hp => by
  simp only [loadAll] at hp
  split at hp
  ·rename_i p ps' h1 h2
   simp at hp
   subst hp
   obtain ⟨v, hv, hr⟩ := loadRes_ok htt h h1
   obtain ⟨vs, hvs, hrs⟩ := loadAll_ok htt h h2
   refine ⟨v :: vs, ?_, .cons hr hrs⟩
   rw [List.mapM_cons, Sem.run_bind, hv]
   simp only [Result.andThen_ok, Sem.run_bind, hvs, Sem.run_pure]
  ·simp at hp

def blkN (bm : BM) (l : List Nat) : List Nat := l.filterMap fun nm => (bm nm).map (·.1)
theorem blksOf_append (i j : List Item) : blksOf (i ++ j) = blksOf i ++ blksOf j := by simp [blksOf]
theorem blkN_append (i j : List Nat) : blkN bm (i ++ j) = blkN bm i ++ blkN bm j := by simp [blkN]
/-- a row or a variable of this function, as a new one -/
theorem own_in (h : SimX G B ks w0 S0 S bm st a w) {V : List Nat} {nm k C : Nat} {b : Box} (hb : getB st.boxes nm = some b) (hbm : bm nm = some (k, C)) (hf : b.frz = false) (hn : nm < 1000000) (hp : pureLL b.els = true) (hV : nm ∉ V) : OwnIn (orS S (Lent bm st.boxes V)) w B k C b.e b.els := by
 have hmap : isMap nm = false := not_map (Nat.lt_of_lt_of_le hn (by decide))
 obtain ⟨hes, _, hB⟩ := h.boxes nm b hb
 have hes := hes hmap
 rw [hbm] at hB
 obtain ⟨arr, Ty, a1, a2, a3⟩ := hB.blk hmap
 refine ⟨?_, ⟨arr, Ty, a1, a2, fun i c v hc hv => ?_⟩, hB.room hmap, hB.cap, hes, fun o hs => ?_⟩
 ·rcases hB.base' with h' | ⟨_, h'⟩
  ·exact h'
  ·omega
 ·have hpu : c.pureB = true := by
   have := pureLL_flat hp
   simp only [pureL, List.all_eq_true] at this
   exact this c (List.mem_of_getElem? hc)
  exact ((a3 i c v hc hv).pureC hpu).mono (fun _ _ h => .inl h) (fun _ _ _ => rfl)
 ·rcases hs with hs | ⟨m, hm, b', C', g1, g2, g3⟩
  ·have := (hB.free o hs).1; rw [hf] at this; simp at this
  ·have := h.inj nm m b b' k C C' hb g1 hbm g2
   subst this
   exact hV hm
theorem resC_ok (h : SimX G B ks w0 S0 S bm st a w) {V : List Nat} {fl : Bool} {c c' : Cell} {v : Value} (hc : RepM S w bm st.boxes c v) (hr : resC st.boxes fl c = some c') (hv : ∀ nm ∈ vwC fl c, nm ∈ V) (ho : ∀ nm ∈ owC fl c, nm ∉ V) :
  ∃ its, RepR (orS S (Lent bm st.boxes V)) w B its c' v ∧ blksOf its = blkN bm (owC fl c) ∧ ∀ nm ∈ owC fl c, ∃ b, getB st.boxes nm = some b := by
 have hview : ∀ {c1}, viewC st.boxes c = some c1 → c' = c1.nn → (∀ nm ∈ nmC c, nm ∈ V) → owC fl c = [] → ∃ its, RepR (orS S (Lent bm st.boxes V)) w B its c' v ∧ blksOf its = blkN bm (owC fl c) ∧ ∀ nm ∈ owC fl c, ∃ b, getB st.boxes nm = some b := by
  rintro c1 h1 rfl h2 h3
  refine ⟨[], .pure (viewC_ok h hc h1 h2).nn, by rw [h3]; rfl, by rw [h3]; simp⟩
 cases c with
 | ms nm ver i n e =>
  simp only [resC] at hr
  cases fl with
  | false =>
   simp only [Bool.false_eq_true, if_false, Option.map_eq_some_iff] at hr
   obtain ⟨c1, h1, rfl⟩ := hr
   exact hview h1 rfl (by simpa [vwC, nmC] using hv) rfl
  | true =>
   simp only [if_true] at hr
   split at hr
   ·rename_i b hb
    split at hr <;> simp at hr
    rename_i hcond
    obtain ⟨hver, hf, hrow, hbe, he0, rfl, rfl, hn, hpu⟩ := hcond
    subst hr
    cases hc with
    | pure hc => cases hc
    | ms _ _ _ _ _ x c hmap h1 h2 h3 h4 =>
     obtain ⟨b', q1, q2, q3⟩ := h4
     rw [hb] at q1
     injection q1 with q1
     subst q1
     obtain ⟨_, _, hloc⟩ := q3 hver
     unfold Loc at hloc
     have howb : ∀ m ∈ owC true (Cell.ms nm ver 0 b.els.length e), ∃ b, getB st.boxes m = some b := by
      intro m hm
      simp [owC] at hm
      subst hm
      exact ⟨b, hb⟩
     split at hloc
     ·rename_i k CC hbm
      obtain ⟨rfl, hcC⟩ := hloc (.inr rfl)
      have hcC : c = CC := by simpa using hcC
      subst hcC
      have hown := own_in h hb hbm hf hn hpu (ho nm (by simp [owC]))
      rw [hbe] at hown
      refine ⟨[(some (k, c), e, b.els, true)], ?_, by simp [blksOf, blkN, owC, hbm], howb⟩
      have := RepR.own (base := B) e b.els k c hown
      simpa using this
     ·rename_i hbm
      have hb0 : b.els = [] := List.length_eq_zero_iff.1 hloc.1
      rw [hb0]
      obtain ⟨_, rfl⟩ := hloc
      exact ⟨[(none, e, [], true)], .none e x, by simp [blksOf, blkN, owC, hbm], by rw [hb0] at howb; exact howb⟩
   ·simp at hr
 | fv nm ver off n e =>
  simp only [resC, Option.map_eq_some_iff] at hr
  obtain ⟨c1, h1, rfl⟩ := hr
  exact hview h1 rfl (by simpa [vwC, nmC] using hv) rfl
 | v x =>
  simp only [resC, Option.map_eq_some_iff] at hr
  obtain ⟨c1, h1, rfl⟩ := hr
  exact hview h1 rfl (by simp [nmC]) rfl
 | slice o els =>
  simp only [resC, Option.map_eq_some_iff] at hr
  obtain ⟨c1, h1, rfl⟩ := hr
  exact hview h1 rfl (by simp [nmC]) rfl
 | own e els => simp [resC, viewC] at hr
 | bad => simp [resC, viewC] at hr
 | mp nm ver => simp [resC, viewC] at hr
theorem resL_ok (h : SimX G B ks w0 S0 S bm st a w) {V : List Nat} {fl : Bool} : ∀ {cs cs' : List Cell} {vs : List Value}, All2 (RepM S w bm st.boxes) cs vs → resL st.boxes fl cs = some cs' → (∀ nm ∈ vwL fl cs, nm ∈ V) → (∀ nm ∈ owL fl cs, nm ∉ V) →
  ∃ its, RepRL (orS S (Lent bm st.boxes V)) w B its cs' vs ∧ blksOf its = blkN bm (owL fl cs) ∧ ∀ nm ∈ owL fl cs, ∃ b, getB st.boxes nm = some b
 | [], cs', vs, hc, hr, _, _ => by cases hc; simp [resL] at hr; subst hr; exact ⟨[], .nil, rfl, by simp [owL]⟩
 | c :: cs, cs', vs, hc, hr, hv, ho => by
  cases hc with
  | cons h1 h2 =>
   simp only [resL] at hr
   split at hr <;> simp at hr
   rename_i d ds e1 e2
   subst hr
   simp only [vwL, owL, List.flatMap_cons, List.mem_append] at hv ho
   obtain ⟨i1, r1, r2, r3⟩ := resC_ok h h1 e1 (fun nm hn => hv nm (.inl hn)) (fun nm hn => ho nm (.inl hn))
   obtain ⟨i2, q1, q2, q3⟩ := resL_ok h h2 e2 (fun nm hn => hv nm (.inr hn)) (fun nm hn => ho nm (.inr hn))
   refine ⟨i1 ++ i2, .cons r1 q1, by simp only [owL, List.flatMap_cons]; rw [blksOf_append, blkN_append, r2, q2]; rfl, ?_⟩
   simp only [owL, List.flatMap_cons, List.mem_append]
   rintro nm (hn | hn)
   ·exact r3 nm hn
   ·exact q3 nm hn
theorem resP_ok (h : SimX G B ks w0 S0 S bm st a w) {V : List Nat} {fl : Bool} {p q : PV} {v : Value} (hp : RepV S w bm st.boxes p v) (hr : resP st.boxes fl p = some q) (hv : ∀ nm ∈ vwP fl p, nm ∈ V) (ho : ∀ nm ∈ owP fl p, nm ∉ V) :
  ∃ its, RepRP (orS S (Lent bm st.boxes V)) w B its q v ∧ blksOf its = blkN bm (owP fl p) ∧ ∀ nm ∈ owP fl p, ∃ b, getB st.boxes nm = some b := by
 cases hp with
 | tup hp => simp [resP] at hr
 | base hp => cases hp with
  | one hp =>
   simp only [resP, Option.map_eq_some_iff] at hr
   obtain ⟨c', h1, rfl⟩ := hr
   obtain ⟨its, r1, r2, r3⟩ := resC_ok h hp h1 hv ho
   exact ⟨its, .one r1, r2, r3⟩
  | agg hp =>
   simp only [resP, Option.map_eq_some_iff] at hr
   obtain ⟨c', h1, rfl⟩ := hr
   obtain ⟨its, r1, r2, r3⟩ := resL_ok h hp h1 hv ho
   exact ⟨its, .agg r1, r2, r3⟩
  | ptr nm ver i off e k hmap hk =>
   cases i with
   | succ i => simp [resP] at hr
   | zero => cases off with
    | succ off => simp [resP] at hr
    | zero =>
     simp only [resP] at hr
     split at hr
     ·rename_i b hb
      split at hr
      ·rename_i cs hels
       split at hr <;> simp at hr
       rename_i hc
       subst hr
       obtain ⟨hfl, hver, hf, hrow, hn, hpu⟩ := hc
       obtain ⟨b', q1, q2, q3⟩ := hk
       rw [hb] at q1
       injection q1 with q1
       subst q1
       obtain ⟨_, C, hbm⟩ := q3 hver
       have hown := own_in h hb hbm hf hn (by rw [hels]; simp [pureLL, hpu]) (ho nm (by simp [owP]))
       obtain ⟨hes, _, hB⟩ := h.boxes nm b hb
       have hes := hes hmap
       rw [hbm] at hB
       have hC := hB.one hrow
       subst hC
       have hbe : b.e = (nnL cs).length := by rw [← hes cs (by simp [hels])]; simp [nnL]
       refine ⟨[(some (k, 1), (nnL cs).length, [nnL cs], false)], ?_, by simp [blksOf, blkN, owP, hbm], fun m hm => by simp [owP] at hm; subst hm; exact ⟨b, hb⟩⟩
       have hown' : OwnIn (orS S (Lent bm st.boxes V)) w B k 1 (nnL cs).length [nnL cs] := by
        obtain ⟨arr, Ty, a1, a2, a3⟩ := hown.blk
        refine ⟨hown.new, ⟨arr, Ty, a1, by rw [hbe] at a2; exact a2, fun i c v hc hv => ?_⟩, by simp, hown.cap, by simp, hown.free⟩
        simp only [List.flatten_cons, List.flatten_nil, List.append_nil, nnL, List.getElem?_map, Option.map_eq_some_iff] at hc
        obtain ⟨c0, hc0, rfl⟩ := hc
        exact (a3 i c0 v (by rw [hels]; simpa using hc0) hv).nn
       have := RepRP.io (base := B) (nnL cs) k hown'
       simpa using this
      ·simp at hr
     ·simp at hr
  | undef => simp [resP] at hr
  | skip => simp [resP] at hr
  | ref => simp [resP] at hr
  | fn => simp [resP] at hr
  | clo => simp [resP] at hr
theorem resPs_ok (h : SimX G B ks w0 S0 S bm st a w) {V : List Nat} {fl : Bool} : ∀ {ps qs : List PV} {vs : List Value}, All2 (RepV S w bm st.boxes) ps vs → resPs st.boxes fl ps = some qs → (∀ nm ∈ ps.flatMap (vwP fl), nm ∈ V) → (∀ nm ∈ ps.flatMap (owP fl), nm ∉ V) →
  ∃ its, RepRT (orS S (Lent bm st.boxes V)) w B its qs vs ∧ blksOf its = blkN bm (ps.flatMap (owP fl)) ∧ ∀ nm ∈ ps.flatMap (owP fl), ∃ b, getB st.boxes nm = some b
 | [], qs, vs, hc, hr, _, _ => by cases hc; simp [resPs] at hr; subst hr; exact ⟨[], .nil, rfl, by simp⟩
 | c :: cs, qs, vs, hc, hr, hv, ho => by
  cases hc with
  | cons h1 h2 =>
   simp only [resPs] at hr
   split at hr <;> simp at hr
   rename_i d ds e1 e2
   subst hr
   simp only [List.flatMap_cons, List.mem_append] at hv ho
   obtain ⟨i1, r1, r2, r3⟩ := resP_ok h h1 e1 (fun nm hn => hv nm (.inl hn)) (fun nm hn => ho nm (.inl hn))
   obtain ⟨i2, q1, q2, q3⟩ := resPs_ok h h2 e2 (fun nm hn => hv nm (.inr hn)) (fun nm hn => ho nm (.inr hn))
   refine ⟨i1 ++ i2, .cons r1 q1, by simp only [List.flatMap_cons]; rw [blksOf_append, blkN_append, r2, q2], ?_⟩
   simp only [List.flatMap_cons, List.mem_append]
   rintro nm (hn | hn)
   ·exact r3 nm hn
   ·exact q3 nm hn
theorem blkN_nodup (h : SimX G B ks w0 S0 S bm st a w) : ∀ {l : List Nat}, l.Nodup → (∀ nm ∈ l, ∃ b, getB st.boxes nm = some b) → (blkN bm l).Nodup
 | [], _, _ => by simp [blkN]
 | nm :: l, hn, hb => by
  rw [List.nodup_cons] at hn
  have ih := blkN_nodup h hn.2 (fun m hm => hb m (by simp [hm]))
  cases hbm : bm nm with
  | none =>
   have : blkN bm (nm :: l) = blkN bm l := by simp [blkN, hbm]
   rw [this]
   exact ih
  | some kc =>
   obtain ⟨k, C⟩ := kc
   have : blkN bm (nm :: l) = k :: blkN bm l := by simp [blkN, hbm]
   rw [this, List.nodup_cons]
   refine ⟨fun hm => ?_, ih⟩
   simp only [blkN, List.mem_filterMap, Option.map_eq_some_iff] at hm
   obtain ⟨m, hm, ⟨k', C'⟩, h2, h3⟩ := hm
   simp only at h3
   subst h3
   obtain ⟨b, g1⟩ := hb nm (by simp)
   obtain ⟨b', g2⟩ := hb m (by simp [hm])
   have := h.inj nm m b b' k' C C' g1 g2 hbm h2
   subst this
   exact hn.1 hm

/-- the variables that arguments point to -/
def ioCs : List PV → List (List Cell)
 | [] => []
 | .io cs :: ps => cs :: ioCs ps
 | _ :: ps => ioCs ps
theorem ArgsOk.ios {ps : List PV} {vs : List Value} (h : ArgsOk S w ks ps vs) : All2 (fun k cs => (∃ arr T, w.heap[k]? = some (.cells arr T (0, 0)) ∧ cs.length ≤ arr.size ∧ ∀ (i : Nat) c v, cs[i]? = some c → arr[i]? = some v → RepC S w c v) ∧ ∀ o, ¬ S k o) ks (ioCs ps) := by
 induction h with
 | nil => exact .nil
 | one _ _ ih => exact ih
 | agg _ _ ih => exact ih
 | fn _ ih => exact ih
 | ref _ _ _ _ _ _ _ ih => exact ih
 | clo _ _ ih => exact ih
 | io h1 h2 _ ih => exact .cons ⟨h1, h2⟩ ih
theorem getB_ioIn : ∀ {ps : List PV} {k nm : Nat} {b : Box}, getB (ioIn k ps).2 nm = some b ↔ ∃ j cs, nm = 1000000 + k + j ∧ (ioCs ps)[j]? = some cs ∧ b = ⟨0, cs.length, [cs], false, false⟩
 | [], k, nm, b => by simp [ioIn, ioCs, getB]
 | p :: ps, k, nm, b => by
  have hskip : (∀ cs, p ≠ .io cs) → (getB (ioIn k (p :: ps)).2 nm = some b ↔ ∃ j cs, nm = 1000000 + k + j ∧ (ioCs (p :: ps))[j]? = some cs ∧ b = ⟨0, cs.length, [cs], false, false⟩) := by
   intro hp
   have h1 : (ioIn k (p :: ps)).2 = (ioIn k ps).2 := by cases p <;> first | rfl | (exact absurd rfl (hp _))
   have h2 : ioCs (p :: ps) = ioCs ps := by cases p <;> first | rfl | (exact absurd rfl (hp _))
   rw [h1, h2]
   exact getB_ioIn
  cases p with
  | io cs =>
   simp only [ioIn, getB, ioCs]
   split
   ·rename_i hnm
    subst hnm
    constructor
    ·rintro h
     injection h with h
     exact ⟨0, cs, by omega, rfl, h.symm⟩
    ·rintro ⟨j, cs', h1, h2, h3⟩
     have : j = 0 := by omega
     subst this
     simp at h2
     subst h2
     rw [h3]
   ·rename_i hnm
    rw [getB_ioIn]
    constructor
    ·rintro ⟨j, cs', h1, h2, h3⟩
     exact ⟨j + 1, cs', by omega, by simpa using h2, h3⟩
    ·rintro ⟨j, cs', h1, h2, h3⟩
     cases j with
     | zero => exact absurd h1.symm (by simpa using hnm)
     | succ j => exact ⟨j, cs', by omega, by simpa using h2, h3⟩
  | _ => exact hskip (by simp)
def bm0 (ks : List Nat) : BM := fun nm => if 1000000 ≤ nm then (ks[nm - 1000000]?).map (fun k => (k, 1)) else none
theorem ioIn_rep {bm : BM} {bxT : Boxes} : ∀ {ps : List PV} {vs : List Value} {ks : List Nat} {k : Nat}, ArgsOk S w ks ps vs → (∀ j cs, (ioCs ps)[j]? = some cs → getB bxT (1000000 + k + j) = some ⟨0, cs.length, [cs], false, false⟩) → (∀ j kk, ks[j]? = some kk → bm (1000000 + k + j) = some (kk, 1) ∧ isMap (1000000 + k + j) = false) →
  All2 (RepV S w bm bxT) (ioIn k ps).1 vs := by
 intro ps vs ks k h
 induction h generalizing k with
 | nil => intro _ _; exact .nil
 | one h1 _ ih => intro hb hk; exact .cons (.base (.one (.pure h1))) (ih hb hk)
 | agg h1 _ ih => intro hb hk; exact .cons (.base (.agg (RepL.toM h1))) (ih hb hk)
 | fn _ ih => intro hb hk; exact .cons (.base (.fn _)) (ih hb hk)
 | ref b o us h1 h2 h3 _ ih => intro hb hk; exact .cons (.base (.ref b o us h1 h2 h3)) (ih hb hk)
 | clo h1 _ ih => intro hb hk; exact .cons (.base (.clo (All2.mono h1 fun _ _ h => h.toB))) (ih hb hk)
 | io h1 h2 _ ih =>
  rename_i ks' cs kk ps vs _
  intro hb hk
  simp only [ioIn]
  refine .cons (.base ?_) (ih (k := k + 1) (fun j cs' hc => ?_) (fun j k' hk' => ?_))
  ·have := RepB.ptr (S := S) (w := w) (bm := bm) (bx := bxT) (1000000 + k) 0 0 0 cs.length kk (hk 0 kk rfl).2 ⟨_, hb 0 cs rfl, Nat.le_refl _, fun _ => ⟨.inl rfl, 1, (hk 0 kk rfl).1⟩⟩
   simpa using this
  ·have := hb (j + 1) cs' (by simpa [ioCs] using hc)
   rwa [show 1000000 + k + (j + 1) = 1000000 + (k + 1) + j by omega] at this
  ·have := hk (j + 1) k' (by simpa using hk')
   rwa [show 1000000 + k + (j + 1) = 1000000 + (k + 1) + j by omega] at this
theorem ioBack_map : ∀ {ps : List PV} {k : Nat} {outs : List (List Cell)}, ioBack bx k ps = some outs → ∀ j, j < (ioCs ps).length → isMap (1000000 + k + j) = false
 | [], k, outs, _, j, hj => by simp [ioCs] at hj
 | p :: ps, k, outs, h, j, hj => by
  have hskip : (∀ cs, p ≠ .io cs) → isMap (1000000 + k + j) = false := by
   intro hp
   have h1 : ioBack bx k (p :: ps) = ioBack bx k ps := by cases p <;> first | rfl | (exact absurd rfl (hp _))
   have h2 : ioCs (p :: ps) = ioCs ps := by cases p <;> first | rfl | (exact absurd rfl (hp _))
   rw [h1] at h
   rw [h2] at hj
   exact ioBack_map h j hj
  cases p with
  | io cs0 =>
   simp only [ioBack] at h
   split at h
   ·rename_i b r hg hr
    split at h
    ·rename_i cs hels
     split at h <;> simp at h
     rename_i hc
     cases j with
     | zero => exact hc.2.2.1
     | succ j =>
      have := ioBack_map hr j (by simpa [ioCs] using hj)
      rwa [show 1000000 + k + (j + 1) = 1000000 + (k + 1) + j by omega]
    ·simp at h
   ·simp at h
  | _ => exact hskip (by simp)
theorem ioIn_len : ∀ {ps : List PV} {k : Nat}, (ioIn k ps).1.length = ps.length
 | [], k => rfl
 | p :: ps, k => by cases p <;> simp [ioIn, ioIn_len]
theorem ioBack_ok (h : SimX G B ks w0 S0 S bm st a w) {V : List Nat} (hVn : ∀ nm ∈ V, nm < 1000000) : ∀ {ps : List PV} {k : Nat} {outs : List (List Cell)}, ioBack st.boxes k ps = some outs → (ks.drop k).length = (ioCs ps).length → IoOk (orS S (Lent bm st.boxes V)) w (ks.drop k) outs
 | [], k, outs, hb, hl => by
  simp [ioBack] at hb
  subst hb
  have : ks.drop k = [] := List.length_eq_zero_iff.1 (by rw [hl]; rfl)
  rw [this]
  exact .nil
 | p :: ps, k, outs, hb, hl => by
  have hskip : (∀ cs, p ≠ .io cs) → IoOk (orS S (Lent bm st.boxes V)) w (ks.drop k) outs := by
   intro hp
   have h1 : ioBack st.boxes k (p :: ps) = ioBack st.boxes k ps := by cases p <;> first | rfl | (exact absurd rfl (hp _))
   have h2 : ioCs (p :: ps) = ioCs ps := by cases p <;> first | rfl | (exact absurd rfl (hp _))
   rw [h1] at hb
   rw [h2] at hl
   exact ioBack_ok h hVn hb hl
  cases p with
  | io cs0 =>
   simp only [ioBack] at hb
   split at hb
   ·rename_i b r hg hr
    split at hb
    ·rename_i cs hels
     split at hb <;> simp at hb
     rename_i hc
     subst hb
     have hkl : k < ks.length := by simp [ioCs] at hl; omega
     rw [List.drop_eq_getElem_cons hkl]
     have hmap : isMap (1000000 + k) = false := hc.2.2.1
     obtain ⟨hes, _, hB⟩ := h.boxes _ b hg
     have hes := hes hmap
     refine .cons ?_ (ioBack_ok h hVn (k := k + 1) hr (by simp [ioCs] at hl ⊢; omega))
     cases hbm : bm (1000000 + k) with
     | none => rw [hbm] at hB; simp [hels] at hB
     | some kc =>
      obtain ⟨kk, C⟩ := kc
      rw [hbm] at hB
      have hkk : ks[k] = kk := by
       rcases hB.base with ⟨h', _⟩ | ⟨_, _, h'⟩
       ·rcases h' with h' | h'
        ·omega
        ·exact map_abs h' hmap
       ·rw [show 1000000 + k - 1000000 = k by omega, List.getElem?_eq_getElem hkl] at h'
        simpa using h'
      rw [hkk]
      obtain ⟨arr, Ty, a1, a2, a3⟩ := hB.blk hmap
      have hcl : cs.length ≤ arr.size := by
       have h1 := hes cs (by simp [hels])
       have h2 := hB.room hmap
       simp [hels] at h2
       have : 1 * b.e ≤ C * b.e := Nat.mul_le_mul_right _ h2
       omega
      refine ⟨arr, Ty, a1, by simpa [nnL] using hcl, fun i c v hc' hv => ?_, fun o hs => ?_⟩
      ·simp only [nnL, List.getElem?_map, Option.map_eq_some_iff] at hc'
       obtain ⟨c0, hc0, rfl⟩ := hc'
       have hpu : c0.pureB = true := by
        have := hc.2.2.2
        simp only [pureL, List.all_eq_true] at this
        exact this c0 (List.mem_of_getElem? hc0)
       exact (((a3 i c0 v (by rw [hels]; simpa using hc0) hv).pureC hpu).mono (fun _ _ h => .inl h) (fun _ _ _ => rfl)).nn
      ·rcases hs with hs | ⟨m, hm, b', C', g1, g2, g3⟩
       ·have := (hB.free o hs).1; rw [hc.2.1] at this; simp at this
       ·have := h.inj (1000000 + k) m b b' kk C C' hg g1 hbm g2
        have := hVn m hm
        omega
    ·simp at hb
   ·simp at hb
  | _ => exact hskip (by simp)

/-- arguments that stand for something -/
def Okay (ps : List PV) : Prop := ∃ S w ks vs, ArgsOk S w ks ps vs
theorem impl_of (hm : P.follows .mixedOrders = true) (htt : ∀ t i, tt t = some i → tinfo P t = some i) (hT : ∀ f F, T f = some F → Impl P G (f % 1000000) F) {f : FuncId} {fn : Func} {c : Code}
  (hf : P.funcs[f]? = some fn) (hb : fn.body = some c) (hname : (fn.name == "runtime.NumGoroutine") = false) {F : List PV → Option (PV × List (List Cell))}
  (hF : ∀ ps r, Okay ps → F ps = some r → ∃ kp fl n, execFn tt T G kp fl n fn ps = some r) : Impl P G f F := by
 refine ⟨⟨fn, hf, by rw [hb]; rfl, hname⟩, fun S w ks ps vs r outs hg hl hr hnd hFr => ?_⟩
 obtain ⟨kp, fl, n, hx⟩ := hF ps (r, outs) ⟨S, w, ks, vs, hr⟩ hFr
 unfold execFn at hx
 rw [hb] at hx
 simp only at hx
 refine calls_of_wp hf hb ?_
 have hios := hr.ios
 have hbmk : ∀ j kk, ks[j]? = some kk → bm0 ks (1000000 + 0 + j) = some (kk, 1) := by
  intro j kk hj
  simp [bm0, hj]
 have hbmi : ∀ nm kk C, bm0 ks nm = some (kk, C) → 1000000 ≤ nm ∧ ks[nm - 1000000]? = some kk ∧ C = 1 := by
  intro nm kk C h
  unfold bm0 at h
  split at h
  ·rename_i hle
   simp only [Option.map_eq_some_iff, Prod.mk.injEq] at h
   obtain ⟨k', h1, rfl, rfl⟩ := h
   exact ⟨hle, h1, rfl⟩
  ·simp at h
 have hmapio : ∀ j, j < ks.length → isMap (1000000 + 0 + j) = false := by
  have key : ∀ stF, resOf tt fl fn ps stF = some (r, outs) → ∀ j, j < ks.length → isMap (1000000 + 0 + j) = false := by
   intro stF hq j hj
   unfold resOf at hq
   split at hq
   ·split at hq
    ·rename_i hback
     exact ioBack_map hback j (by rw [← hios.length]; exact hj)
    ·simp at hq
   ·simp at hq
  split at hx
  ·rename_i stF _; exact key stF hx
  ·rename_i stF _; exact key stF hx
  ·simp at hx
 have hrep := ioIn_rep (bm := bm0 ks) (bxT := (ioIn 0 ps).2) (k := 0) hr (fun j cs hc => getB_ioIn.2 ⟨j, cs, rfl, hc, rfl⟩) (fun j kk hj => ⟨hbmk j kk hj, hmapio j (getElem_pos hj)⟩)
 have hlenr := hrep.length
 have hsim : Sim G w.heap.size ks w S ⟨(ioIn 0 ps).1 ++ List.replicate (fn.ntmps - ps.length) .skip, (ioIn 0 ps).2⟩ { tmps := vs.toArray ++ Array.replicate (fn.ntmps - vs.toArray.size) undef, defers := [] } w := by
  have hlen := @ioIn_len ps 0
  refine ⟨S, bm0 ks, rfl, by simp [hlenr]; omega, fun i p v hp hv => ?_, fun nm b hb => ?_, fun nm nm' b b' k C C' h1 h2 h3 h4 => ?_, Keeps.refl _ _ _, Nat.le_refl _, fun _ _ h => h, fun _ _ h => .inl h, hl, hg, fun k hk => ?_⟩
  ·simp only [List.getElem?_append] at hp
   simp only [Array.getElem?_append, List.size_toArray, List.getElem?_toArray] at hv
   by_cases hi : i < (ioIn 0 ps).1.length
   ·rw [if_pos hi] at hp
    rw [if_pos (by omega)] at hv
    obtain ⟨v', hv', hrv⟩ := hrep.get hp
    have : v' = v := by rw [hv] at hv'; simpa using hv'.symm
    subst this
    exact hrv
   ·rw [if_neg hi] at hp
    rw [if_neg (by omega)] at hv
    simp [List.getElem?_replicate] at hp
    simp [Array.getElem?_replicate] at hv
    obtain ⟨_, rfl⟩ := hp
    obtain ⟨_, rfl⟩ := hv
    exact .base .skip
  ·simp only at hb
   obtain ⟨j, cs, rfl, hj, rfl⟩ := getB_ioIn.1 hb
   refine ⟨by simp, fun hf => by simp at hf, ?_⟩
   have hjl : j < ks.length := by have := getElem_pos hj; rw [hios.length]; exact this
   have hk1 : ks[j]? = some ks[j] := by simp [hjl]
   rw [hbmk j ks[j] hk1]
   obtain ⟨cs', hj', ⟨arr, Ty, a1, a2, a3⟩, hfree⟩ := hios.get hk1
   rw [hj] at hj'
   injection hj' with hj'
   subst hj'
   exact ⟨.inr ⟨by omega, hmapio j hjl, by rw [show 1000000 + 0 + j - 1000000 = j by omega]; exact hk1⟩, ⟨fun _ => ⟨arr, Ty, a1, by simpa using a2, fun i c v hc hv => .pure (a3 i c v (by simpa using hc) hv)⟩, fun hm => map_abs hm (hmapio j hjl)⟩, fun _ => by simp, by unfold maxLen; omega, fun o hs => absurd hs (hfree o), fun hf => by simp at hf, fun _ => rfl⟩
  ·obtain ⟨g1, g2, _⟩ := hbmi nm k C h3
   obtain ⟨f1, f2, _⟩ := hbmi nm' k C' h4
   have key : ∀ (x y : Nat), ks[x]? = some k → ks[y]? = some k → x = y := by
    intro x y hx hy
    have e1 := getElem_pos hx
    have e2 := getElem_pos hy
    rw [List.getElem?_eq_getElem e1] at hx
    rw [List.getElem?_eq_getElem e2] at hy
    injection hx with hx
    injection hy with hy
    exact (List.getElem_inj hnd).1 (hx.trans hy.symm)
   have := key _ _ g2 f2
   omega
  ·obtain ⟨j, hj⟩ := List.getElem?_of_mem hk
   obtain ⟨cs', hj', ⟨arr, Ty, a1, _⟩, _⟩ := hios.get hj
   exact heap_lt a1
 cases he : exec tt T G kp n c ⟨(ioIn 0 ps).1 ++ List.replicate (fn.ntmps - ps.length) .skip, (ioIn 0 ps).2⟩ with
 | none => simp [he] at hx
 | some rr =>
  obtain ⟨ae, stF⟩ := rr
  refine Code.wp_mono (fun e a' w' hp => ?_) (exec_ok hm htt hT c _ _ _ _ he hsim)
  obtain ⟨hee, S', bm, hs⟩ := hp
  -- the io variables keep their blocks
  have hfin : resOf tt fl fn ps stF = some (r, outs) → a'.defers = [] ∧ ∃ v, (results fn a'.tmps).run P w' = .ok v w' ∧ ∃ v' S'' its, Ending.returned v = .returned v' ∧ RepRR S'' w' w.heap.size its r v' ∧ (blksOf its).Nodup ∧ IoOk S'' w' ks outs ∧ GrowK S S'' w w' ks := by
   intro hq
   refine ⟨hs.dfr, ?_⟩
   unfold resOf at hq
   split at hq
   ·rename_i qs0 hla
    split at hq
    ·rename_i qs outs' hqs hback
     split at hq <;> simp only [Option.some.injEq, reduceCtorEq, Prod.mk.injEq] at hq
     rename_i hc
     obtain ⟨rfl, rfl⟩ := hq
     simp only [Bool.and_eq_true] at hc
     obtain ⟨⟨hc1, hc2⟩, hc3⟩ := hc
     obtain ⟨us, hus, hrs⟩ := loadAll_ok (P := P) htt hs hla
     have hres : (results fn a'.tmps).run P w' = .ok (if h : us.toArray.size = 1 then us.toArray[0] else .tuple us.toArray) w' := by
      rw [results_eq, Sem.run_bind, Array.mapM_eq_mapM_toList]
      simp only [Sem.run_map]
      rw [hus]
      simp
     have hVn : ∀ nm ∈ qs0.flatMap (vwP fl), nm < 1000000 := by
      simp only [frzOk, List.all_eq_true, decide_eq_true_eq] at hc3
      exact hc3
     have hdis : ∀ nm ∈ qs0.flatMap (owP fl), nm ∉ qs0.flatMap (vwP fl) := by
      intro nm hn
      have := List.all_eq_true.1 hc2 nm hn
      simpa using this
     obtain ⟨its, h1, h2, h3⟩ := resPs_ok hs (V := qs0.flatMap (vwP fl)) hrs hqs (fun _ h => h) hdis
     have hnd' : (blksOf its).Nodup := by rw [h2]; exact blkN_nodup hs (nodupB_spec hc1) h3
     have hgrow : GrowK S (orS S' (Lent bm stF.boxes (qs0.flatMap (vwP fl)))) w w' ks := by
      refine ⟨hs.below, fun b o h => .inl (hs.mono b o h), fun b o h => ?_, fun b o h => ?_⟩
      ·rcases h with h | ⟨nm, hn, b', C, g1, g2, _⟩
       ·exact hs.fresh b o h
       ·obtain ⟨_, _, hB⟩ := hs.boxes nm b' g1
        rw [g2] at hB
        rcases hB.base' with h' | ⟨_, h'⟩
        ·exact .inr h'
        ·have := hVn nm hn; omega
      ·rcases h with h | ⟨nm, hn, b', C, g1, g2, _⟩
       ·exact hs.slt b o h
       ·exact (hs.boxes nm b' g1).lt g2
     refine ⟨_, hres, _, orS S' (Lent bm stF.boxes (qs0.flatMap (vwP fl))), its, rfl, ?_, hnd', ?_, hgrow⟩
     ·cases h1 with
      | nil => exact .tup .nil
      | cons p1 p2 =>
       cases p2 with
       | nil =>
        simp only [List.append_nil]
        exact .base (by simpa [ret1] using p1)
       | cons p3 p4 =>
        have : RepRR (orS S' (Lent bm stF.boxes (qs0.flatMap (vwP fl)))) w' w.heap.size _ _ _ := .tup (.cons p1 (.cons p3 p4))
        simpa [ret1] using this
     ·have := ioBack_ok hs (k := 0) hVn hback (by rw [List.drop_zero]; exact hios.length)
      rw [List.drop_zero] at this
      exact this
    ·simp at hq
   ·simp at hq
  rw [he] at hx
  cases ae with
  | normal => simp only [AE.to] at hee; subst hee; exact hfin hx
  | ret => simp only [AE.to] at hee; subst hee; exact hfin hx
  | exit id => simp at hx
end
end Go.Av
end
section
namespace Go.Av
open Go.RowKit
set_option linter.unusedVariables false

/-- zero cells -/
def zr (n : Nat) (z : Zc) : List Zc := List.replicate n z
def regOf (id : Nat) : Code → Option Code
 | .region i ops d => if i == id then some (.region i ops d) else none
 | .seq a b => (match regOf id a with | some c => some c | none => regOf id b)
 | .cond _ a b => (match regOf id a with | some c => some c | none => regOf id b)
 | .block _ c => regOf id c
 | .loop c => regOf id c
 | _ => none
/-- the region of that number in a function's code -/
def reg (fn : Func) (id : Nat) : Code := match fn.body with | some c => (match regOf id c with | some r => r | none => .skip) | none => .skip

section
variable {tt : TT} {T : Tab} {G : Glob} {kp : Keep} {n : Nat} {st st1 : ASt} {a b c d : Code} {Q Q' : AE → ASt → Prop}
def EndA (tt : TT) (T : Tab) (G : Glob) (kp : Keep) (n : Nat) (c : Code) (st : ASt) (Q : AE → ASt → Prop) : Prop := ∃ e s, exec tt T G kp n c st = some (e, s) ∧ Q e s
/-- what a block makes of an exit -/
def outOf (id : Nat) (Q : AE → ASt → Prop) : AE → ASt → Prop
 | .exit id', s => if id' = id then Q .normal s else Q (.exit id') s
 | e, s => Q e s
def thenQ (K : ASt → Prop) (Q : AE → ASt → Prop) : AE → ASt → Prop
 | .normal, s => K s
 | e, s => Q e s
theorem EndA.mono (h : EndA tt T G kp n c st Q) (hq : ∀ e s, Q e s → Q' e s) : EndA tt T G kp n c st Q' := let ⟨e, s, h1, h2⟩ := h; ⟨e, s, h1, hq _ _ h2⟩
def bV (t : Bool) : PV := .one (.v (.bool t))
def FinQ (tt : TT) (w : Bool) (fn : Func) (args : List PV) (r : PV × List (List Cell)) : AE → ASt → Prop
 | .ret, s => resOf tt w fn args s = some r
 | .normal, s => resOf tt w fn args s = some r
 | _, _ => False
theorem fn_ends {fn : Func} {args : List PV} {w : Bool} {r : PV × List (List Cell)} (hb : fn.body = some c) (h : EndA tt T G kp n c ⟨(ioIn 0 args).1 ++ List.replicate (fn.ntmps - args.length) .skip, (ioIn 0 args).2⟩ (FinQ tt w fn args r)) : execFn tt T G kp w n fn args = some r := by
 obtain ⟨e, s, h1, h2⟩ := h
 unfold execFn
 rw [hb]
 simp only [h1]
 cases e with
 | normal => exact h2
 | ret => exact h2
 | exit id => exact h2.elim
end

/-! data without rows of this function -/
def Cell.stab : Cell → Bool
 | .v _ => true
 | .slice .no _ => true
 | _ => false
def stabL (cs : List Cell) : Bool := cs.all Cell.stab
section
variable {bx : Boxes} {cs ds : List Cell} {d k : Nat} {ns : List Nat} {w : Bool}
@[simp] theorem stabL_nil : stabL [] = true := rfl
@[simp] theorem stabL_cons (c : Cell) : stabL (c :: cs) = (c.stab && stabL cs) := rfl
@[simp] theorem stabL_append : stabL (cs ++ ds) = (stabL cs && stabL ds) := by simp [stabL]
theorem stab_pure {c : Cell} (h : c.stab = true) : c.pureB = true := by
 cases c with
 | v x => rfl
 | slice o els => rfl
 | _ => simp [Cell.stab] at h
theorem pureL_stab (h : stabL cs = true) : pureL cs = true := by
 simp only [stabL, pureL, List.all_eq_true] at *
 exact fun x hx => stab_pure (h x hx)
theorem pureLL_map {α : Type} {f : α → List Cell} (L : List α) (h : ∀ a, stabL (f a) = true) : pureLL (L.map f) = true := by
 simp only [pureLL, List.all_eq_true, List.mem_map]
 rintro l ⟨a, _, rfl⟩
 exact pureL_stab (h a)
theorem viewC_pureB {c : Cell} (h : c.pureB = true) : viewC bx c = some c := by
 cases c <;> first | rfl | (simp [Cell.pureB] at h)
theorem viewL_stab (h : stabL cs = true) : viewL bx cs = some cs := by
 induction cs with
 | nil => rfl
 | cons c cs ih =>
  simp only [stabL_cons, Bool.and_eq_true] at h
  simp [viewL, viewC_pureB (stab_pure h.1), ih h.2]
theorem nmL_stab (h : stabL cs = true) : nmL cs = [] := by
 induction cs with
 | nil => rfl
 | cons c cs ih =>
  simp only [stabL_cons, Bool.and_eq_true] at h
  have hc : nmC c = [] := by cases c <;> first | rfl | (simp [Cell.stab] at h)
  have := ih h.2
  unfold nmL at this ⊢
  simp [hc, this]
theorem fixL_stab (h : stabL cs = true) : fixL bx ns cs = cs := by
 induction cs with
 | nil => rfl
 | cons c cs ih =>
  simp only [stabL_cons, Bool.and_eq_true] at h
  have hc : fixC bx ns c = c := by cases c <;> first | rfl | (simp [Cell.stab] at h)
  have := ih h.2
  unfold fixL at this ⊢
  simp [hc, this]
theorem nnL_stab (h : stabL cs = true) : nnL cs = cs := by
 induction cs with
 | nil => rfl
 | cons c cs ih =>
  simp only [stabL_cons, Bool.and_eq_true] at h
  have hc : c.nn = c := by
   cases c with
   | slice o els => cases o <;> first | rfl | (simp [Cell.stab] at h)
   | _ => first | rfl | (simp [Cell.stab] at h)
  have := ih h.2
  unfold nnL at this ⊢
  simp [hc, this]
theorem landL_stab (h : stabL cs = true) : landL bx d k cs = (cs, []) := by
 induction cs with
 | nil => rfl
 | cons c cs ih =>
  simp only [stabL_cons, Bool.and_eq_true] at h
  have := ih h.2
  cases c with
  | own => simp [Cell.stab] at h
  | _ => simp [landL, this]
theorem resL_stab (h : stabL cs = true) : resL bx w cs = some cs := by
 induction cs with
 | nil => rfl
 | cons c cs ih =>
  simp only [stabL_cons, Bool.and_eq_true] at h
  have := ih h.2
  have hc : resC bx w c = some c := by
   cases c with
   | v x => rfl
   | slice o els => cases o <;> first | rfl | (simp [Cell.stab] at h)
   | _ => simp [Cell.stab] at h
  simp [resL, hc, this]
theorem owL_stab (h : stabL cs = true) : owL w cs = [] := by
 induction cs with
 | nil => rfl
 | cons c cs ih =>
  simp only [stabL_cons, Bool.and_eq_true] at h
  have hc : owC w c = [] := by cases c <;> first | rfl | (simp [Cell.stab] at h)
  have := ih h.2
  unfold owL at this ⊢
  simp [hc, this]
theorem vwL_stab (h : stabL cs = true) : vwL w cs = [] := by
 induction cs with
 | nil => rfl
 | cons c cs ih =>
  simp only [stabL_cons, Bool.and_eq_true] at h
  have hc : vwC w c = [] := by cases c <;> first | rfl | (simp [Cell.stab] at h)
  have := ih h.2
  unfold vwL at this ⊢
  simp [hc, this]
theorem fixLL_map {α : Type} {f : α → List Cell} (L : List α) (h : ∀ a, stabL (f a) = true) : fixLL bx ns (L.map f) = L.map f := by
 simp only [fixLL, List.map_map]
 apply List.map_congr_left
 intro a _
 exact fixL_stab (h a)
theorem viewL_append : viewL bx (cs ++ ds) = (match viewL bx cs, viewL bx ds with | some a, some b => some (a ++ b) | _, _ => none) := by
 induction cs with
 | nil => simp [viewL]; cases viewL bx ds <;> rfl
 | cons c cs ih =>
  simp only [List.cons_append, viewL, ih]
  cases viewC bx c <;> cases viewL bx cs <;> cases viewL bx ds <;> rfl
theorem nmL_append : nmL (cs ++ ds) = nmL cs ++ nmL ds := by simp [nmL]
theorem fixL_append : fixL bx ns (cs ++ ds) = fixL bx ns cs ++ fixL bx ns ds := by simp [fixL]
theorem nnL_append : nnL (cs ++ ds) = nnL cs ++ nnL ds := by simp [nnL]
theorem hasSlL_append : hasSlL (cs ++ ds) = (hasSlL cs || hasSlL ds) := by simp [hasSlL]
theorem owL_append : owL w (cs ++ ds) = owL w cs ++ owL w ds := by simp [owL]
theorem vwL_append : vwL w (cs ++ ds) = vwL w cs ++ vwL w ds := by simp [vwL]
theorem resL_append : resL bx w (cs ++ ds) = (match resL bx w cs, resL bx w ds with | some a, some b => some (a ++ b) | _, _ => none) := by
 induction cs with
 | nil => simp [resL]; cases resL bx w ds <;> rfl
 | cons c cs ih =>
  simp only [List.cons_append, resL, ih]
  cases resC bx w c <;> cases resL bx w cs <;> cases resL bx w ds <;> rfl
theorem landL_append_stab (h : stabL cs = true) : landL bx d k (cs ++ ds) = (cs ++ (landL bx d k ds).1, (landL bx d k ds).2) := by
 induction cs with
 | nil => rfl
 | cons c cs ih =>
  simp only [stabL_cons, Bool.and_eq_true] at h
  have := ih h.2
  cases c with
  | own => simp [Cell.stab] at h
  | _ => simp [landL, this]
@[simp] theorem nmL_cons (c : Cell) : nmL (c :: cs) = nmC c ++ nmL cs := rfl
@[simp] theorem nmL_nil : nmL [] = [] := rfl
@[simp] theorem fixL_cons (c : Cell) : fixL bx ns (c :: cs) = fixC bx ns c :: fixL bx ns cs := rfl
@[simp] theorem fixL_nil : fixL bx ns [] = [] := rfl
@[simp] theorem nnL_cons (c : Cell) : nnL (c :: cs) = c.nn :: nnL cs := rfl
@[simp] theorem nnL_nil : nnL [] = [] := rfl
@[simp] theorem hasSlL_cons (c : Cell) : hasSlL (c :: cs) = (c.hasSl || hasSlL cs) := rfl
@[simp] theorem hasSlL_nil : hasSlL [] = false := rfl
@[simp] theorem owL_cons (c : Cell) : owL w (c :: cs) = owC w c ++ owL w cs := rfl
@[simp] theorem owL_nil : owL w [] = [] := rfl
@[simp] theorem vwL_cons (c : Cell) : vwL w (c :: cs) = vwC w c ++ vwL w cs := rfl
@[simp] theorem vwL_nil : vwL w [] = [] := rfl
@[simp] theorem pureL_cons (c : Cell) : pureL (c :: cs) = (c.pureB && pureL cs) := rfl
@[simp] theorem pureL_nil : pureL [] = true := rfl
@[simp] theorem pureL_append : pureL (cs ++ ds) = (pureL cs && pureL ds) := by simp [pureL]
@[simp] theorem pureLL_cons (l : List Cell) (els : List (List Cell)) : pureLL (l :: els) = (pureL l && pureLL els) := rfl
@[simp] theorem pureLL_nil : pureLL [] = true := rfl
@[simp] theorem pureLL_append (a b : List (List Cell)) : pureLL (a ++ b) = (pureLL a && pureLL b) := by simp [pureLL]
@[simp] theorem fixLL_cons (l : List Cell) (els : List (List Cell)) : fixLL bx ns (l :: els) = fixL bx ns l :: fixLL bx ns els := rfl
@[simp] theorem fixLL_nil : fixLL bx ns [] = [] := rfl
@[simp] theorem fixLL_append (a b : List (List Cell)) : fixLL bx ns (a ++ b) = fixLL bx ns a ++ fixLL bx ns b := by simp [fixLL]
end
attribute [simp] viewL_append nmL_append fixL_append nnL_append hasSlL_append owL_append vwL_append resL_append
attribute [simp] pureL_stab viewL_stab nmL_stab fixL_stab nnL_stab landL_stab resL_stab owL_stab vwL_stab pureLL_map fixLL_map landL_append_stab
attribute [simp] capOk argK argKs nmK calleeF mapNm isMap mapE shapeP keyTy Cell.isI isStr1 kKind kKind1 fixP0
attribute [simp] runL runU run1 step1 goes eff rd rds rdO putD setAll Upd.app Upd.foot ASt.get PV.cells partC TI.agg pureOp rdParts ofConst ofCell ofCells fieldOf szOf places fillC idxOf bndOf bin intBin shiftBin eqRes appendOp copyOp look tailOf elsOf viewC viewL nmC argP argPs nmP ioP ioOut
 landL landP landPs landR hasSlP hasSlR Cell.hasSl nodupB calleeF viewEls nmPs frzL frzOk newVer getB setB setBs forget forget0 ren1 renAll keepB fixP fixC mk1 mkAll isNil loadAll loadRes resC resL resP resPs owC vwC owP vwP ioIn ioBack ret1 resOf Cell.pureB Cell.stab Cell.nn PV.nnB Zc.cell minInts cellEq cellsEq outOf thenQ FinQ
@[simp] theorem pb_and (k : IntKind) (x y : Int) : pureOf (Op.intBits .and k x y) = some (.int k (bits .and k x y)) := rfl
@[simp] theorem pb_or (k : IntKind) (x y : Int) : pureOf (Op.intBits .or k x y) = some (.int k (bits .or k x y)) := rfl
@[simp] theorem pb_xor (k : IntKind) (x y : Int) : pureOf (Op.intBits .xor k x y) = some (.int k (bits .xor k x y)) := rfl
@[simp] theorem pb_andNot (k : IntKind) (x y : Int) : pureOf (Op.intBits .andNot k x y) = some (.int k (bits .andNot k x y)) := rfl
@[simp] theorem int_beq (a b : Int) : (a == b) = decide (a = b) := by rw [Bool.eq_iff_iff]; simp
@[simp] theorem int_bne (a b : Int) : (a != b) = !decide (a = b) := by rw [bne, int_beq]

/-! contracts by encoders -/
/-- F: at the arguments enc a the result is g a -/
noncomputable def lift {α : Type} (enc : α → List PV) (g : α → Option (PV × List (List Cell))) : List PV → Option (PV × List (List Cell)) := fun ps => by
 classical
 exact if h : ∃ a, enc a = ps then g (Classical.choose h) else none
theorem lift_eq {α : Type} {enc : α → List PV} {g : α → Option (PV × List (List Cell))} (hi : ∀ a b, enc a = enc b → a = b) (a : α) : lift enc g (enc a) = g a := by
 unfold lift
 have h : ∃ b, enc b = enc a := ⟨a, rfl⟩
 rw [dif_pos h]
 exact congrArg g (hi _ _ (Classical.choose_spec h))
theorem lift_inv {α : Type} {enc : α → List PV} {g : α → Option (PV × List (List Cell))} {ps : List PV} {r : PV × List (List Cell)} (h : lift enc g ps = some r) : ∃ a, ps = enc a ∧ g a = some r := by
 unfold lift at h
 split at h
 ·rename_i he
  exact ⟨_, (Classical.choose_spec he).symm, h⟩
 ·simp at h
/-- a table of few functions -/
def tab : List (Nat × (List PV → Option (PV × List (List Cell)))) → Tab
 | [], _ => none
 | (g, F) :: l, f => if f = g then some F else tab l f
def AllI (P : Program) (G : Glob) : List (Nat × (List PV → Option (PV × List (List Cell)))) → Prop
 | [] => True
 | (g, F) :: l => Impl P G (g % 1000000) F ∧ AllI P G l
theorem tab_ok {P : Program} {G : Glob} : ∀ {l : List (Nat × (List PV → Option (PV × List (List Cell))))}, AllI P G l → ∀ f F, tab l f = some F → Impl P G (f % 1000000) F
 | [], _, f, F, h => by simp [tab] at h
 | (g, H) :: l, ha, f, F, h => by
  simp only [tab] at h
  split at h
  ·rename_i hf
   simp at h
   subst hf h
   exact ha.1
  ·exact tab_ok ha.2 f F h
/-- what arguments that stand for something satisfy -/
theorem Okay.get {ps : List PV} {i : Nat} {p : PV} (h : Okay ps) (hi : ps[i]? = some p) : ∃ S w, (∃ c v, p = .one c ∧ RepC S w c v) ∨ (∃ cs vs, p = .agg cs ∧ RepL S w cs vs) ∨ (∃ f, p = .fn f) ∨ (∃ cs, p = .io cs) ∨ (∃ cs, p = .ref cs) ∨ (∃ f qs, p = .clo f qs) := by
 obtain ⟨S, w, ks, vs, h⟩ := h
 refine ⟨S, w, ?_⟩
 induction h generalizing i with
 | nil => simp at hi
 | one h1 _ ih =>
  cases i with
  | zero => simp at hi; subst hi; exact .inl ⟨_, _, rfl, h1⟩
  | succ i => exact ih (by simpa using hi)
 | agg h1 _ ih =>
  cases i with
  | zero => simp at hi; subst hi; exact .inr (.inl ⟨_, _, rfl, h1⟩)
  | succ i => exact ih (by simpa using hi)
 | fn _ ih =>
  cases i with
  | zero => simp at hi; subst hi; exact .inr (.inr (.inl ⟨_, rfl⟩))
  | succ i => exact ih (by simpa using hi)
 | io _ _ _ ih =>
  cases i with
  | zero => simp at hi; subst hi; exact .inr (.inr (.inr (.inl ⟨_, rfl⟩)))
  | succ i => exact ih (by simpa using hi)
 | ref _ _ _ _ _ _ _ ih =>
  cases i with
  | zero => simp at hi; subst hi; exact .inr (.inr (.inr (.inr (.inl ⟨_, rfl⟩))))
  | succ i => exact ih (by simpa using hi)
 | clo _ _ ih =>
  cases i with
  | zero => simp at hi; subst hi; exact .inr (.inr (.inr (.inr (.inr ⟨_, _, rfl⟩))))
  | succ i => exact ih (by simpa using hi)
theorem Okay.len {ps : List PV} {i : Nat} {o : Own} {els : List (List Cell)} (h : Okay ps) (hi : ps[i]? = some (.one (.slice o els))) : els.length ≤ maxLen := by
 obtain ⟨S, w, h⟩ := h.get hi
 rcases h with ⟨c, v, h1, h2⟩ | ⟨cs, vs, h1, _⟩ | ⟨f, h1⟩ | ⟨cs, h1⟩ | ⟨cs, h1⟩ | ⟨f, qs, h1⟩
 ·injection h1 with h1
  subst h1
  obtain ⟨_, c, _, h3, h4⟩ := h2.len
  omega
 all_goals cases h1
end Go.Av
end
section
namespace Go.Av
open Go.RowKit
set_option linter.unusedVariables false

/-! numbers -/
abbrev bP (b : Bool) : PV := .one (.v (.bool b))
def ints (k : IntKind) (l : List Int) : List Cell := l.map fun x => .v (.int k x)
section
variable {k : IntKind} {l m : List Int}
@[simp] theorem ints_len : (ints k l).length = l.length := by simp [ints]
@[simp] theorem ints_stab : stabL (ints k l) = true := by simp [ints, stabL, Cell.stab]
@[simp] theorem ints_noSl : hasSlL (ints k l) = false := by simp [ints, hasSlL, Cell.hasSl, Cell.isSl]
@[simp] theorem ints_get (i : Nat) : (ints k l)[i]? = (l[i]?).map fun x => .v (.int k x) := by simp [ints]
theorem ints_take (n : Nat) : (ints k l).take n = ints k (l.take n) := by simp [ints, List.map_take]
theorem ints_drop (n : Nat) : (ints k l).drop n = ints k (l.drop n) := by simp [ints, List.map_drop]
theorem ints_inj (h : ints k l = ints k m) : l = m := by
 unfold ints at h
 have hi : Function.Injective (fun x : Int => Cell.v (.int k x)) := fun a b h => by injection h with h; injection h
 exact (List.map_inj_right (fun a b h => hi h)).1 h
theorem ints_put {i : Nat} (x : Int) (hi : i < l.length) : putCells (ints k l) i [.v (.int k x)] = ints k (l.set i x) := by
 apply List.ext_getElem?
 intro j
 rw [put_get (by simp; omega)]
 simp only [ints_get, List.getElem?_set, List.length_cons, List.length_nil]
 by_cases hj : i = j
 ·subst hj
  simp [hi]
 ·have : ¬ (i ≤ j ∧ j < i + 1) := by omega
  simp [this, hj]
theorem ints_eq : ∀ {a b : List Int}, a.length = b.length → cellsEq (ints k a) (ints k b) = some (a == b)
 | [], [], _ => rfl
 | x :: a, y :: b, h => by
  have ih := ints_eq (a := a) (b := b) (by simpa using h)
  simp only [ints] at ih
  simp [ints, ih, List.cons_beq_cons]
end
/-- arrays of numbers -/
structure Arr (n : Nat) where
 l : List Int
 hl : l.length = n
deriving DecidableEq
def arC {n : Nat} (k : IntKind) (a : Arr n) : List Cell := ints k a.l
section
variable {n : Nat} {k : IntKind}
@[simp] theorem arC_len (a : Arr n) : (arC k a).length = n := by simp [arC, a.hl]
@[simp] theorem arC_stab (a : Arr n) : stabL (arC k a) = true := by simp [arC]
@[simp] theorem arC_noSl (a : Arr n) : hasSlL (arC k a) = false := by simp [arC]
@[simp] theorem arC_take (a : Arr n) : (arC k a).take n = arC k a := List.take_of_length_le (by simp)
@[simp] theorem arC_eq (a b : Arr n) : cellsEq (arC k a) (arC k b) = some (decide (a = b)) := by
 unfold arC
 rw [ints_eq (by rw [a.hl, b.hl])]
 cases a; cases b
 simp
 rw [Bool.eq_iff_iff]
 simp
theorem arC_inj {a b : Arr n} (h : arC k a = arC k b) : a = b := by
 have := ints_inj h
 cases a; cases b
 simp_all
end
/-- rows of numbers, as slices -/
def intsR (k : IntKind) (l : List Int) : List (List Cell) := l.map fun x => [.v (.int k x)]
abbrev isC (k : IntKind) (l : List Int) : Cell := .slice .no (intsR k l)
section
variable {k : IntKind} {l m : List Int}
@[simp] theorem intsR_len : (intsR k l).length = l.length := by simp [intsR]
@[simp] theorem intsR_pure : pureLL (intsR k l) = true := pureLL_map l (by simp [Cell.stab])
@[simp] theorem intsR_fix {bx : Boxes} {ns : List Nat} : fixLL bx ns (intsR k l) = intsR k l := fixLL_map l (by simp [Cell.stab])
@[simp] theorem intsR_get (i : Nat) : (intsR k l)[i]? = (l[i]?).map fun x => [.v (.int k x)] := by simp [intsR]
@[simp] theorem intsR_all : ∀ x ∈ intsR k l, x.length = 1 := by simp [intsR]
theorem intsR_take (n : Nat) : (intsR k l).take n = intsR k (l.take n) := by simp [intsR, List.map_take]
theorem intsR_drop (n : Nat) : (intsR k l).drop n = intsR k (l.drop n) := by simp [intsR, List.map_drop]
theorem intsR_append : intsR k l ++ intsR k m = intsR k (l ++ m) := by simp [intsR]
theorem chunk_ints : ∀ {n : Nat} {l : List Int}, n ≤ l.length → chunk 1 n (ints k l) = intsR k (l.take n)
 | 0, l, _ => by simp [chunk, intsR]
 | n + 1, [], h => by simp at h
 | n + 1, x :: l, h => by
  have := chunk_ints (n := n) (l := l) (by simpa using h)
  simp only [ints, intsR] at this
  simp [chunk, ints, intsR, this]
theorem intsR_inj (h : intsR k l = intsR k m) : l = m := by
 unfold intsR at h
 have hi : Function.Injective (fun x : Int => [Cell.v (.int k x)]) := fun a b h => by injection h with h; injection h with h; injection h
 exact (List.map_inj_right (fun a b h => hi h)).1 h
theorem intsR_set (i : Nat) (x : Int) : (intsR k l).set i [.v (.int k x)] = intsR k (l.set i x) := by simp [intsR, List.map_set]
end
@[simp] theorem put_whole {cs ds : List Cell} (h : cs.length ≤ ds.length) : putCells cs 0 ds = ds := by
 unfold putCells
 rw [List.drop_of_length_le (by omega)]
 simp
@[simp] theorem put_succ (c : Cell) (cs : List Cell) (n : Nat) (ds : List Cell) : putCells (c :: cs) (n + 1) ds = c :: putCells cs n ds := by
 unfold putCells
 rw [show n + 1 + ds.length = (n + ds.length) + 1 by omega]
 simp
@[simp] theorem put_cons (c d : Cell) (cs ds : List Cell) : putCells (c :: cs) 0 (d :: ds) = d :: putCells cs 0 ds := by
 unfold putCells
 simp
@[simp] theorem put_nil (cs : List Cell) : putCells cs 0 [] = cs := by unfold putCells; simp
theorem put_skip {xs cs ds : List Cell} {n : Nat} (h : xs.length ≤ n) : putCells (xs ++ cs) n ds = xs ++ putCells cs (n - xs.length) ds := by
 unfold putCells
 rw [List.take_append, List.drop_append, List.take_of_length_le h, List.drop_of_length_le (by omega)]
 simp
 congr 2
 omega
@[simp] theorem put_arC {n : Nat} {k : IntKind} (cs : List Cell) (a : Arr n) : putCells cs 0 (arC k a) = arC k a ++ cs.drop n := by unfold putCells; simp
@[simp] theorem put_arC_skip {n m : Nat} {k : IntKind} (a : Arr n) (cs ds : List Cell) (h : n ≤ m) : putCells (arC k a ++ cs) m ds = arC k a ++ putCells cs (m - n) ds := by
 have := put_skip (xs := arC k a) (cs := cs) (ds := ds) (n := m) (by simpa using h)
 simpa using this

attribute [simp] List.take_of_length_le List.drop_of_length_le List.take_append List.drop_append
/-- elements -/
def Arr.at {n : Nat} (a : Arr n) (i : Nat) : Int := a.l.getD i 0
def Arr.put {n : Nat} (a : Arr n) (i : Nat) (x : Int) : Arr n := ⟨a.l.set i x, by simp [a.hl]⟩
theorem arC_get {n : Nat} {k : IntKind} (a : Arr n) {i : Nat} (h : i < n) : (arC k a)[i]? = some (.v (.int k (a.at i))) := by
 have hl : i < a.l.length := by rw [a.hl]; exact h
 unfold arC
 rw [ints_get, List.getElem?_eq_getElem hl]
 simp [Arr.at, hl]
@[simp] theorem arC_getE {n : Nat} {k : IntKind} (a : Arr n) {i : Nat} (h : i < (arC k a).length) : (arC k a)[i] = .v (.int k (a.at i)) := by
 have h1 := arC_get (k := k) a (i := i) (by simpa using h)
 rw [List.getElem?_eq_getElem h] at h1
 injection h1
theorem arC_sub {n : Nat} {k : IntKind} (a : Arr n) {i : Nat} (h : i < n) : ((arC k a).drop i).take 1 = [.v (.int k (a.at i))] := by
 have h1 := arC_get (k := k) a h
 have hl : i < (arC k a).length := by simpa using h
 rw [List.getElem?_eq_getElem hl] at h1
 injection h1 with h1
 rw [List.drop_eq_getElem_cons hl, h1]
 rfl
theorem arC_put {n : Nat} {k : IntKind} (a : Arr n) {i : Nat} (h : i < n) (x : Int) : putCells (arC k a) i [.v (.int k x)] = arC k (a.put i x) := by
 unfold arC
 rw [ints_put x (by rw [a.hl]; exact h)]
 rfl
theorem Arr.put_put {n : Nat} (a : Arr n) (i : Nat) (x y : Int) : (a.put i x).put i y = a.put i y := by
 unfold Arr.put
 congr 1
 simp
theorem Arr.at_put {n : Nat} (a : Arr n) {i : Nat} (h : i < n) (x : Int) : (a.put i x).at i = x := by
 have := a.hl
 simp [Arr.at, Arr.put, show i < a.l.length by omega]
theorem Arr.at_put_ne {n : Nat} (a : Arr n) {i j : Nat} (h : i ≠ j) (x : Int) : (a.put i x).at j = a.at j := by
 simp [Arr.at, Arr.put, List.getElem?_set_ne h]
theorem Arr.ext {n : Nat} {a b : Arr n} (h : ∀ i, i < n → a.at i = b.at i) : a = b := by
 obtain ⟨a, ha⟩ := a
 obtain ⟨b, hb⟩ := b
 congr 1
 apply List.ext_getElem (by omega)
 intro i h1 h2
 have := h i (by omega)
 simpa [Arr.at, h1, h2] using this
theorem Arr.put_at {n : Nat} (a : Arr n) {i : Nat} (h : i < n) : a.put i (a.at i) = a := by
 apply Arr.ext
 intro j hj
 by_cases hij : i = j
 ·subst hij; rw [Arr.at_put _ h]
 ·rw [Arr.at_put_ne _ hij]
/-- zeros -/
def zs (n : Nat) : List Int := List.replicate n 0
@[simp] theorem zs_len (n : Nat) : (zs n).length = n := by simp [zs]
theorem zs_get {n i : Nat} (h : i < n) : (zs n)[i]? = some 0 := by simp [zs, h]
def zA (n : Nat) : Arr n := ⟨zs n, by simp⟩
theorem zA_at {n i : Nat} : (zA n).at i = 0 := by
 simp [zA, zs, Arr.at, List.getElem?_replicate]
 split <;> rfl
@[simp] theorem zr_map (n : Nat) (k : IntKind) : (zr n (.int k)).map Zc.cell = arC k (zA n) := by simp [zr, arC, ints, zA, zs, Zc.cell]
@[simp] theorem zr_len (n : Nat) (z : Zc) : (zr n z).length = n := by simp [zr]
/-- pieces of the state -/
def und (n : Nat) : List PV := List.replicate n .undef
end Go.Av
end
