import Derived.Test.YtlfnplkjbejekaaCode
namespace Go.Proofs.Ytlfnplkjbejekaa
open Go.Ab
attribute [simp] runL run1 step1 goes eff rd rdT taken takenT nilTip putD PV.un Cell.un Upd.app setAll ASt.get PV.cells partC TI.agg wants isWant PV.unA pureOp makeOp rds rdParts isData isRes ofConst ofCell ofCells
  fieldOf szOf places fillC idxOf bin intBin shiftBin eqRes appendC loadAll loadRes refAddr boxAt Zc.cell forget pureOf Cell.nn PV.nnB PV.nn cellEq cellsEq resOf outOf thenQ FinQ
attribute [simp] tt2 ti2 tt3 ti3 tt4 ti4 tt5 ti5 tt6 ti6 tt7 ti7 tt8 ti8 tt9 ti9 tt10 ti10 tt11 ti11 tt12 ti12 tt13 ti13 tt14 ti14 tt21 ti21 tt22 ti22 tt23 ti23 tt24 ti24 tt25 ti25 tt26 ti26 tt29 ti29 tt33 ti33 tt39 ti39 tt44 ti44 tt45 ti45 tt51 ti51 tt53 ti53 tt57 ti57 tt58 ti58 tt59 ti59 tt61 ti61 tt62 ti62 tt63 ti63 tt66 ti66 tt67 ti67

@[simp] theorem int_beq (a b : Int) : (a == b) = decide (a = b) := by rw [Bool.eq_iff_iff]; simp
@[simp] theorem int_bne (a b : Int) : (a != b) = !decide (a = b) := by rw [bne, int_beq]

/-- the cells of bytes -/
def by8 (h : List Int) : List Cell := h.map fun b => .v (.int .u8 b)
theorem by8_len (h : List Int) : (by8 h).length = h.length := by simp [by8]
theorem un_by8 (h : List Int) : unCells (by8 h) = by8 h := by simp [by8, unCells]
@[simp] theorem un_append (a b : List Cell) : unCells (a ++ b) = unCells a ++ unCells b := by simp [unCells]
@[simp] theorem un_cons (a : Cell) (b : List Cell) : unCells (a :: b) = a.un :: unCells b := by simp [unCells]
@[simp] theorem un_nil : unCells [] = [] := by simp [unCells]

@[simp] theorem put_whole {cs ds : List Cell} (h : cs.length ≤ ds.length) : putCells cs 0 ds = ds := by
  unfold putCells
  rw [List.drop_of_length_le (by omega)]
  simp

/-- 32 bytes -/
structure Hs where
  l : List Int
  hl : l.length = 32
deriving DecidableEq
def hC (h : Hs) : List Cell := by8 h.l
@[simp] theorem hC_len (h : Hs) : (hC h).length = 32 := by simp [hC, by8_len, h.hl]
@[simp] theorem hC_un (h : Hs) : unCells (hC h) = hC h := un_by8 _
@[simp] theorem hC_take (h : Hs) : (hC h).take 32 = hC h := List.take_of_length_le (by simp)
@[simp] theorem hC_nn (h : Hs) : (hC h).map Cell.nn = hC h := by simp [hC, by8]
theorem by8_eq : ∀ {a b : List Int}, a.length = b.length → cellsEq (by8 a) (by8 b) = some (a == b)
  | [], [], _ => rfl
  | x :: a, y :: b, h => by
    have ih := by8_eq (a := a) (b := b) (by simpa using h)
    simp only [by8] at ih
    simp [by8, ih, List.cons_beq_cons]
@[simp] theorem hC_eq (a b : Hs) : cellsEq (hC a) (hC b) = some (decide (a = b)) := by
  unfold hC
  rw [by8_eq (by rw [a.hl, b.hl])]
  cases a; cases b
  simp
  rw [Bool.eq_iff_iff]
  simp
def by8D : List Cell → Option (List Int)
  | [] => some []
  | .v (.int .u8 b) :: r => match by8D r with | some l => some (b :: l) | none => none
  | _ => none
@[simp] theorem by8D_by8 : ∀ h : List Int, by8D (by8 h) = some h
  | [] => rfl
  | b :: h => by have := by8D_by8 h; simp only [by8] at this; simp [by8, by8D, this]
theorem by8D_spec : ∀ {cs : List Cell} {h : List Int}, by8D cs = some h → cs = by8 h
  | [], h, e => by simp [by8D] at e; subst e; rfl
  | c :: cs, h, e => by
    unfold by8D at e
    split at e
    · simp at *
    · rename_i b r heq
      injection heq with h1 h2
      subst h1 h2
      split at e <;> simp at e
      rename_i l hl
      subst e
      rw [by8D_spec hl]
      rfl
    · simp at e
def hD (cs : List Cell) : Option Hs := match by8D cs with | some h => if hl : h.length = 32 then some ⟨h, hl⟩ else none | none => none
@[simp] theorem hD_hC (h : Hs) : hD (hC h) = some h := by simp [hD, hC, h.hl]
theorem hD_spec {cs : List Cell} {h : Hs} (e : hD cs = some h) : cs = hC h := by
  unfold hD at e
  split at e
  · rename_i l hl
    split at e <;> simp at e
    subst e
    exact by8D_spec hl
  · simp at e

@[simp] theorem put_succ (c : Cell) (cs : List Cell) (n : Nat) (ds : List Cell) : putCells (c :: cs) (n + 1) ds = c :: putCells cs n ds := by
  unfold putCells
  rw [show n + 1 + ds.length = (n + ds.length) + 1 by omega]
  simp
@[simp] theorem put_cons (c d : Cell) (cs ds : List Cell) : putCells (c :: cs) 0 (d :: ds) = d :: putCells cs 0 ds := by
  unfold putCells
  simp
@[simp] theorem put_nil (cs : List Cell) : putCells cs 0 [] = cs := by unfold putCells; simp
@[simp] theorem put_hC (cs : List Cell) (h : Hs) : putCells cs 0 (hC h) = hC h ++ cs.drop 32 := by unfold putCells; simp
@[simp] theorem put_app (h : Hs) (cs ds : List Cell) : putCells (hC h ++ cs) 32 ds = hC h ++ putCells cs 0 ds := by
  unfold putCells
  rw [List.take_left' (by simp), List.drop_append, List.drop_of_length_le (by simp)]
  simp

/-- a claim -/
structure Cl where
  peer : Int
  hdr : Hs
deriving DecidableEq
def clC (c : Cl) : List Cell := .v (.int .i64 c.peer) :: hC c.hdr
@[simp] theorem clC_len (c : Cl) : (clC c).length = 33 := by simp [clC]
@[simp] theorem clC_un (c : Cl) : unCells (clC c) = clC c := by simp [clC]
@[simp] theorem clC_take (c : Cl) : (clC c).take 33 = clC c := List.take_of_length_le (by simp)
@[simp] theorem clC_nn (c : Cl) : (clC c).map Cell.nn = clC c := by simp [clC]
@[simp] theorem clC_0 (c : Cl) : (clC c)[0]? = some (.v (.int .i64 c.peer)) := rfl
@[simp] theorem clC_g0 (c : Cl) (h : 0 < (clC c).length) : (clC c)[0] = .v (.int .i64 c.peer) := rfl
@[simp] theorem clC_1 (c : Cl) : (clC c).drop 1 = hC c.hdr := rfl
@[simp] theorem clC_t (c : Cl) : (clC c).tail = hC c.hdr := rfl
@[simp] theorem clC_eq (a b : Cl) : cellsEq (clC a) (clC b) = some (decide (a = b)) := by
  unfold clC
  cases a; cases b
  simp
def clD : List Cell → Option Cl
  | .v (.int .i64 p) :: r => match hD r with | some h => some ⟨p, h⟩ | none => none
  | _ => none
@[simp] theorem clD_clC (c : Cl) : clD (clC c) = some c := by simp [clD, clC]
theorem clD_spec {cs : List Cell} {c : Cl} (e : clD cs = some c) : cs = clC c := by
  unfold clD at e
  split at e
  · split at e <;> simp at e
    rename_i h hh
    subst e
    rw [hD_spec hh]
    rfl
  · simp at e
/-- lists of claims -/
def elsD {α : Type} (f : List Cell → Option α) : List (List Cell) → Option (List α)
  | [] => some []
  | l :: ls => match f l, elsD f ls with | some a, some m => some (a :: m) | _, _ => none
theorem elsD_map {α : Type} {f : List Cell → Option α} {g : α → List Cell} (h : ∀ a, f (g a) = some a) : ∀ L : List α, elsD f (L.map g) = some L
  | [] => rfl
  | a :: L => by simp [elsD, h a, elsD_map h L]
theorem elsD_spec {α : Type} {f : List Cell → Option α} {g : α → List Cell} (h : ∀ l a, f l = some a → l = g a) : ∀ {ls : List (List Cell)} {L : List α}, elsD f ls = some L → ls = L.map g
  | [], L, e => by simp [elsD] at e; subst e; rfl
  | l :: ls, L, e => by
    simp only [elsD] at e
    split at e <;> simp at e
    rename_i a m h1 h2
    subst e
    simp [h _ _ h1, elsD_spec h h2]
def lsD : PV → Option (List Cl)
  | .one (.slice .no els) => elsD clD els
  | _ => none
abbrev lsP (L : List Cl) : PV := .one (.slice .no (L.map clC))
@[simp] theorem lsD_lsP (L : List Cl) : lsD (lsP L) = some L := elsD_map clD_clC L
theorem lsD_spec {p : PV} {L : List Cl} (e : lsD p = some L) : p = lsP L := by
  unfold lsD at e
  split at e
  · rw [elsD_spec (fun l a => clD_spec) e]
  · simp at e

/-- a dispute -/
structure Dis where
  lo : Int
  hi : Int
  ag : Hs
  cl : List Cl
deriving DecidableEq
def disC (d : Dis) : List Cell := .v (.int .i64 d.lo) :: .v (.int .i64 d.hi) :: (hC d.ag ++ [.slice .no (d.cl.map clC)])
@[simp] theorem disC_len (d : Dis) : (disC d).length = 35 := by simp [disC]
@[simp] theorem disC_un (d : Dis) : unCells (disC d) = disC d := by simp [disC]
@[simp] theorem disC_take (d : Dis) : (disC d).take 35 = disC d := List.take_of_length_le (by simp)
@[simp] theorem disC_nn (d : Dis) : (disC d).map Cell.nn = disC d := by simp [disC]
@[simp] theorem disC_0 (d : Dis) : (disC d)[0]? = some (.v (.int .i64 d.lo)) := rfl
@[simp] theorem disC_1 (d : Dis) : (disC d)[1]? = some (.v (.int .i64 d.hi)) := rfl
@[simp] theorem disC_2 (d : Dis) : ((disC d).drop 2).take 32 = hC d.ag := by
  show (hC d.ag ++ _).take 32 = _
  rw [List.take_left' (by simp)]
@[simp] theorem disC_34 (d : Dis) : (disC d)[34]? = some (.slice .no (d.cl.map clC)) := by
  show (hC d.ag ++ _)[32]? = _
  rw [List.getElem?_append_right (by simp)]
  simp
@[simp] theorem disC_g0 (d : Dis) (h : 0 < (disC d).length) : (disC d)[0] = .v (.int .i64 d.lo) := rfl
@[simp] theorem disC_g1 (d : Dis) (h : 1 < (disC d).length) : (disC d)[1] = .v (.int .i64 d.hi) := rfl
@[simp] theorem disC_g34 (d : Dis) (h : 34 < (disC d).length) : (disC d)[34] = .slice .no (d.cl.map clC) := by
  have := disC_34 d
  rw [List.getElem?_eq_getElem h] at this
  exact Option.some.inj this
@[simp] theorem disC_lo (d : Dis) (x : Int) : putCells (disC d) 0 [.v (.int .i64 x)] = disC { d with lo := x } := rfl
@[simp] theorem disC_hi (d : Dis) (x : Int) : putCells (disC d) 1 [.v (.int .i64 x)] = disC { d with hi := x } := rfl
@[simp] theorem disC_ag (d : Dis) (h : Hs) : putCells (disC d) 2 (hC h) = disC { d with ag := h } := by
  unfold putCells disC
  simp
@[simp] theorem disC_cl (d : Dis) (L : List Cl) : putCells (disC d) 34 [.slice .no (L.map clC)] = disC { d with cl := L } := by
  unfold putCells disC
  simp
def disD : List Cell → Option Dis
  | .v (.int .i64 lo) :: .v (.int .i64 hi) :: r => match hD (r.take 32), r.drop 32 with
    | some h, [c] => (match lsD (.one c) with | some L => some ⟨lo, hi, h, L⟩ | none => none)
    | _, _ => none
  | _ => none
@[simp] theorem disD_disC (d : Dis) : disD (disC d) = some d := by
  unfold disD disC
  simp only
  rw [List.take_left' (by simp), List.drop_left' (by simp)]
  have := lsD_lsP d.cl
  simp only [lsP] at this
  simp [this]
theorem disD_spec {cs : List Cell} {d : Dis} (e : disD cs = some d) : cs = disC d := by
  unfold disD at e
  split at e
  · rename_i lo hi r
    split at e
    · rename_i h c h1 h2
      split at e <;> simp at e
      rename_i L hL
      subst e
      have e1 := hD_spec h1
      have e2 := lsD_spec hL
      injection e2 with e2
      unfold disC
      rw [← List.take_append_drop 32 r, e1, h2, e2]
    · simp at e
  · simp at e
end Go.Proofs.Ytlfnplkjbejekaa
