import Derived.Test.YtipochhfofhofaaDoorAvP3
import Derived.ChangeSlices
import Derived.Below
section
namespace Go.Av
open Go.RowKit
set_option linter.unusedVariables false

/-- zero cells -/
def zr (n : Nat) (z : Zc) : List Zc := List.replicate n z
def regOf (id : Nat) : Code → Option Code
  | .region i ops d => if i == id then some (.region i ops d) else none
  | .seq a b => (match regOf id a with | some c => some c | none => regOf id b)
  | .cond _ a b => (match regOf id a with | some c => some c | none => regOf id b)
  | .block _ c => regOf id c
  | .loop c => regOf id c
  | _ => none
/-- the region of that number in a function's code -/
def reg (fn : Func) (id : Nat) : Code := match fn.body with | some c => (match regOf id c with | some r => r | none => .skip) | none => .skip

section
variable {tt : TT} {T : Tab} {G : Glob} {kp : Keep} {n : Nat} {st st1 : ASt} {a b c d : Code} {Q Q' : AE → ASt → Prop}
def EndA (tt : TT) (T : Tab) (G : Glob) (kp : Keep) (n : Nat) (c : Code) (st : ASt) (Q : AE → ASt → Prop) : Prop := ∃ e s, exec tt T G kp n c st = some (e, s) ∧ Q e s
def Iters (k : Kp) (f : ASt → Option (AE × ASt)) (m : Nat) (st : ASt) (Q : AE → ASt → Prop) : Prop := ∃ e s, iter k f m st = some (e, s) ∧ Q e s
/-- what a block makes of an exit -/
def outOf (id : Nat) (Q : AE → ASt → Prop) : AE → ASt → Prop
  | .exit id', s => if id' = id then Q .normal s else Q (.exit id') s
  | e, s => Q e s
def thenQ (K : ASt → Prop) (Q : AE → ASt → Prop) : AE → ASt → Prop
  | .normal, s => K s
  | e, s => Q e s
theorem EndA.mono (h : EndA tt T G kp n c st Q) (hq : ∀ e s, Q e s → Q' e s) : EndA tt T G kp n c st Q' := let ⟨e, s, h1, h2⟩ := h; ⟨e, s, h1, hq _ _ h2⟩
theorem en_seq (h : EndA tt T G kp n a st (thenQ (fun s => EndA tt T G kp n b s Q) Q)) : EndA tt T G kp n (.seq a b) st Q := by
  obtain ⟨e, s, h1, h2⟩ := h
  cases e with
  | normal => obtain ⟨e', s', h3, h4⟩ := h2; exact ⟨e', s', by simp [exec, h1, h3], h4⟩
  | exit id => exact ⟨_, _, by simp [exec, h1], h2⟩
  | ret => exact ⟨_, _, by simp [exec, h1], h2⟩
theorem en_reg {id : Nat} {ops : Array Oper} (hc : c = .region id ops false) (h : runL tt T G ops.toList ops.toList st = some st1) (hq : Q .normal st1) : EndA tt T G kp n c st Q := ⟨_, _, by subst hc; simp [exec, h], hq⟩
theorem en_draw {id : Nat} {ops : Array Oper} {fs : List Foot} (hc : c = .region id ops true) (h : runU tt T G ops.toList ops.toList st = some (st1, fs)) (hd : drawOk ops.toList fs = true) (hq : Q .normal st1) : EndA tt T G kp n c st Q := ⟨_, _, by subst hc; simp [exec, h, hd], hq⟩
theorem en_seq_reg {id : Nat} {ops : Array Oper} (hc : c = .region id ops false) (h : runL tt T G ops.toList ops.toList st = some st1) (hq : EndA tt T G kp n b st1 Q) : EndA tt T G kp n (.seq c b) st Q := en_seq (en_reg hc h hq)
theorem en_seq_draw {id : Nat} {ops : Array Oper} {fs : List Foot} (hc : c = .region id ops true) (h : runU tt T G ops.toList ops.toList st = some (st1, fs)) (hd : drawOk ops.toList fs = true) (hq : EndA tt T G kp n b st1 Q) : EndA tt T G kp n (.seq c b) st Q := en_seq (en_draw hc h hd hq)
theorem en_skip (h : Q .normal st) : EndA tt T G kp n .skip st Q := ⟨_, _, rfl, h⟩
theorem en_ret (h : Q .ret st) : EndA tt T G kp n .ret st Q := ⟨_, _, rfl, h⟩
theorem en_exit {id : Nat} (h : Q (.exit id) st) : EndA tt T G kp n (.exit id) st Q := ⟨_, _, rfl, h⟩
theorem en_seq_skip (h : EndA tt T G kp n b st Q) : EndA tt T G kp n (.seq .skip b) st Q := en_seq (en_skip h)
theorem en_seq_ret (h : Q .ret st) : EndA tt T G kp n (.seq .ret b) st Q := en_seq (en_ret h)
theorem en_seq_exit {id : Nat} (h : Q (.exit id) st) : EndA tt T G kp n (.seq (.exit id) b) st Q := en_seq (en_exit h)
theorem en_assoc (h : EndA tt T G kp n (.seq a (.seq b d)) st Q) : EndA tt T G kp n (.seq (.seq a b) d) st Q := by
  obtain ⟨e, s, h1, h2⟩ := h
  refine ⟨e, s, ?_, h2⟩
  rw [← h1]
  simp only [exec]
  cases exec tt T G kp n a st with
  | none => rfl
  | some x => obtain ⟨e, s⟩ := x; cases e <;> rfl
def bV (t : Bool) : PV := .one (.v (.bool t))
theorem en_cond {x : Operand} {t : Bool} (h : rd G st.get x = some (bV t)) (h1 : t = true → EndA tt T G kp n a st Q) (h2 : t = false → EndA tt T G kp n b st Q) : EndA tt T G kp n (.cond x a b) st Q := by
  unfold bV at h
  cases t with
  | true => obtain ⟨e, s, h3, h4⟩ := h1 rfl; exact ⟨e, s, by simp [exec, h, h3], h4⟩
  | false => obtain ⟨e, s, h3, h4⟩ := h2 rfl; exact ⟨e, s, by simp [exec, h, h3], h4⟩
theorem en_seq_cond {x : Operand} {t : Bool} (h : rd G st.get x = some (bV t)) (h1 : t = true → EndA tt T G kp n (.seq a d) st Q) (h2 : t = false → EndA tt T G kp n (.seq b d) st Q) : EndA tt T G kp n (.seq (.cond x a b) d) st Q := by
  unfold bV at h
  cases t with
  | true => obtain ⟨e, s, h3, h4⟩ := h1 rfl; refine ⟨e, s, ?_, h4⟩; rw [← h3]; simp [exec, h]
  | false => obtain ⟨e, s, h3, h4⟩ := h2 rfl; refine ⟨e, s, ?_, h4⟩; rw [← h3]; simp [exec, h]
theorem en_block {id : Nat} (h : EndA tt T G kp n c st (outOf id Q)) : EndA tt T G kp n (.block id c) st Q := by
  obtain ⟨e, s, h1, h2⟩ := h
  cases e with
  | normal => exact ⟨.normal, s, by simp [exec, h1], h2⟩
  | ret => exact ⟨.ret, s, by simp [exec, h1], h2⟩
  | exit id' =>
    simp only [outOf] at h2
    split at h2
    · rename_i hid; exact ⟨.normal, s, by simp [exec, h1, hid], h2⟩
    · rename_i hid; exact ⟨.exit id', s, by simp [exec, h1, hid], h2⟩
theorem en_seq_block {id : Nat} (h : EndA tt T G kp n c st (outOf id (thenQ (fun s => EndA tt T G kp n d s Q) Q))) : EndA tt T G kp n (.seq (.block id c) d) st Q := en_seq (en_block h)
theorem en_loop {kq : Kp} (hk : kp (firstId c) = kq) (h : Iters kq (exec tt T G kp n c) n st Q) : EndA tt T G kp n (.loop c) st Q := by
  subst hk; exact let ⟨e, s, h1, h2⟩ := h; ⟨e, s, by simp [exec, h1], h2⟩
theorem en_seq_loop {kq : Kp} (hk : kp (firstId c) = kq) (h : Iters kq (exec tt T G kp n c) n st (thenQ (fun s => EndA tt T G kp n d s Q) Q)) : EndA tt T G kp n (.seq (.loop c) d) st Q := en_seq (en_loop hk h)

/-- a loop whose head is H x, with I x, and a measure -/
theorem it_inv {α : Type} {kq : Kp} (H : α → ASt) (I : α → Prop) (μ : α → Nat)
    (hbody : ∀ x, I x → EndA tt T G kp n c (H x) (thenQ (fun s => ∃ y, I y ∧ forget kq s = H y ∧ μ y < μ x) Q)) :
    ∀ (m : Nat) (x : α) (st : ASt), I x → μ x < m → forget kq st = H x → Iters kq (exec tt T G kp n c) m st Q := by
  intro m
  induction m with
  | zero => intro x st _ hm; omega
  | succ m ih =>
    intro x st hI hm hs
    obtain ⟨e, s, h1, h2⟩ := hbody x hI
    cases e with
    | normal =>
      obtain ⟨y, hy, hf, hlt⟩ := h2
      obtain ⟨e', s', h3, h4⟩ := ih y s hy (by omega) hf
      exact ⟨e', s', by simp [iter, hs, h1, h3], h4⟩
    | exit id => exact ⟨_, _, by simp only [iter, hs, h1], h2⟩
    | ret => exact ⟨_, _, by simp only [iter, hs, h1], h2⟩

def FinQ (tt : TT) (w : Bool) (fn : Func) (args : List PV) (r : PV × List (List Cell)) : AE → ASt → Prop
  | .ret, s => resOf tt w fn args s = some r
  | .normal, s => resOf tt w fn args s = some r
  | _, _ => False
theorem fn_ends {fn : Func} {args : List PV} {w : Bool} {r : PV × List (List Cell)} (hb : fn.body = some c) (h : EndA tt T G kp n c ⟨(ioIn 0 args).1 ++ List.replicate (fn.ntmps - args.length) .skip, (ioIn 0 args).2⟩ (FinQ tt w fn args r)) : execFn tt T G kp w n fn args = some r := by
  obtain ⟨e, s, h1, h2⟩ := h
  unfold execFn
  rw [hb]
  simp only [h1]
  cases e with
  | normal => exact h2
  | ret => exact h2
  | exit id => exact h2.elim
end

/-! data without rows of this function -/
def Cell.stab : Cell → Bool
  | .v _ => true
  | .slice .no _ => true
  | _ => false
def stabL (cs : List Cell) : Bool := cs.all Cell.stab
section
variable {bx : Boxes} {cs ds : List Cell} {d k : Nat} {ns : List Nat} {w : Bool}
@[simp] theorem stabL_nil : stabL [] = true := rfl
@[simp] theorem stabL_cons (c : Cell) : stabL (c :: cs) = (c.stab && stabL cs) := rfl
@[simp] theorem stabL_append : stabL (cs ++ ds) = (stabL cs && stabL ds) := by simp [stabL]
theorem stab_pure {c : Cell} (h : c.stab = true) : c.pureB = true := by
  cases c with
  | v x => rfl
  | slice o els => rfl
  | _ => simp [Cell.stab] at h
theorem pureL_stab (h : stabL cs = true) : pureL cs = true := by
  simp only [stabL, pureL, List.all_eq_true] at *
  exact fun x hx => stab_pure (h x hx)
theorem pureLL_map {α : Type} {f : α → List Cell} (L : List α) (h : ∀ a, stabL (f a) = true) : pureLL (L.map f) = true := by
  simp only [pureLL, List.all_eq_true, List.mem_map]
  rintro l ⟨a, _, rfl⟩
  exact pureL_stab (h a)
theorem viewC_pureB {c : Cell} (h : c.pureB = true) : viewC bx c = some c := by
  cases c <;> first | rfl | (simp [Cell.pureB] at h)
theorem viewL_stab (h : stabL cs = true) : viewL bx cs = some cs := by
  induction cs with
  | nil => rfl
  | cons c cs ih =>
    simp only [stabL_cons, Bool.and_eq_true] at h
    simp [viewL, viewC_pureB (stab_pure h.1), ih h.2]
theorem nmL_stab (h : stabL cs = true) : nmL cs = [] := by
  induction cs with
  | nil => rfl
  | cons c cs ih =>
    simp only [stabL_cons, Bool.and_eq_true] at h
    have hc : nmC c = [] := by cases c <;> first | rfl | (simp [Cell.stab] at h)
    have := ih h.2
    unfold nmL at this ⊢
    simp [hc, this]
theorem fixL_stab (h : stabL cs = true) : fixL bx ns cs = cs := by
  induction cs with
  | nil => rfl
  | cons c cs ih =>
    simp only [stabL_cons, Bool.and_eq_true] at h
    have hc : fixC bx ns c = c := by cases c <;> first | rfl | (simp [Cell.stab] at h)
    have := ih h.2
    unfold fixL at this ⊢
    simp [hc, this]
theorem nnL_stab (h : stabL cs = true) : nnL cs = cs := by
  induction cs with
  | nil => rfl
  | cons c cs ih =>
    simp only [stabL_cons, Bool.and_eq_true] at h
    have hc : c.nn = c := by
      cases c with
      | slice o els => cases o <;> first | rfl | (simp [Cell.stab] at h)
      | _ => first | rfl | (simp [Cell.stab] at h)
    have := ih h.2
    unfold nnL at this ⊢
    simp [hc, this]
theorem landL_stab (h : stabL cs = true) : landL bx d k cs = (cs, []) := by
  induction cs with
  | nil => rfl
  | cons c cs ih =>
    simp only [stabL_cons, Bool.and_eq_true] at h
    have := ih h.2
    cases c with
    | own => simp [Cell.stab] at h
    | _ => simp [landL, this]
theorem resL_stab (h : stabL cs = true) : resL bx w cs = some cs := by
  induction cs with
  | nil => rfl
  | cons c cs ih =>
    simp only [stabL_cons, Bool.and_eq_true] at h
    have := ih h.2
    have hc : resC bx w c = some c := by
      cases c with
      | v x => rfl
      | slice o els => cases o <;> first | rfl | (simp [Cell.stab] at h)
      | _ => simp [Cell.stab] at h
    simp [resL, hc, this]
theorem owL_stab (h : stabL cs = true) : owL w cs = [] := by
  induction cs with
  | nil => rfl
  | cons c cs ih =>
    simp only [stabL_cons, Bool.and_eq_true] at h
    have hc : owC w c = [] := by cases c <;> first | rfl | (simp [Cell.stab] at h)
    have := ih h.2
    unfold owL at this ⊢
    simp [hc, this]
theorem vwL_stab (h : stabL cs = true) : vwL w cs = [] := by
  induction cs with
  | nil => rfl
  | cons c cs ih =>
    simp only [stabL_cons, Bool.and_eq_true] at h
    have hc : vwC w c = [] := by cases c <;> first | rfl | (simp [Cell.stab] at h)
    have := ih h.2
    unfold vwL at this ⊢
    simp [hc, this]
theorem fixLL_map {α : Type} {f : α → List Cell} (L : List α) (h : ∀ a, stabL (f a) = true) : fixLL bx ns (L.map f) = L.map f := by
  simp only [fixLL, List.map_map]
  apply List.map_congr_left
  intro a _
  exact fixL_stab (h a)
theorem viewL_append : viewL bx (cs ++ ds) = (match viewL bx cs, viewL bx ds with | some a, some b => some (a ++ b) | _, _ => none) := by
  induction cs with
  | nil => simp [viewL]; cases viewL bx ds <;> rfl
  | cons c cs ih =>
    simp only [List.cons_append, viewL, ih]
    cases viewC bx c <;> cases viewL bx cs <;> cases viewL bx ds <;> rfl
theorem nmL_append : nmL (cs ++ ds) = nmL cs ++ nmL ds := by simp [nmL]
theorem fixL_append : fixL bx ns (cs ++ ds) = fixL bx ns cs ++ fixL bx ns ds := by simp [fixL]
theorem nnL_append : nnL (cs ++ ds) = nnL cs ++ nnL ds := by simp [nnL]
theorem hasSlL_append : hasSlL (cs ++ ds) = (hasSlL cs || hasSlL ds) := by simp [hasSlL]
theorem owL_append : owL w (cs ++ ds) = owL w cs ++ owL w ds := by simp [owL]
theorem vwL_append : vwL w (cs ++ ds) = vwL w cs ++ vwL w ds := by simp [vwL]
theorem resL_append : resL bx w (cs ++ ds) = (match resL bx w cs, resL bx w ds with | some a, some b => some (a ++ b) | _, _ => none) := by
  induction cs with
  | nil => simp [resL]; cases resL bx w ds <;> rfl
  | cons c cs ih =>
    simp only [List.cons_append, resL, ih]
    cases resC bx w c <;> cases resL bx w cs <;> cases resL bx w ds <;> rfl
theorem landL_append_stab (h : stabL cs = true) : landL bx d k (cs ++ ds) = (cs ++ (landL bx d k ds).1, (landL bx d k ds).2) := by
  induction cs with
  | nil => rfl
  | cons c cs ih =>
    simp only [stabL_cons, Bool.and_eq_true] at h
    have := ih h.2
    cases c with
    | own => simp [Cell.stab] at h
    | _ => simp [landL, this]
@[simp] theorem nmL_cons (c : Cell) : nmL (c :: cs) = nmC c ++ nmL cs := rfl
@[simp] theorem nmL_nil : nmL [] = [] := rfl
@[simp] theorem fixL_cons (c : Cell) : fixL bx ns (c :: cs) = fixC bx ns c :: fixL bx ns cs := rfl
@[simp] theorem fixL_nil : fixL bx ns [] = [] := rfl
@[simp] theorem nnL_cons (c : Cell) : nnL (c :: cs) = c.nn :: nnL cs := rfl
@[simp] theorem nnL_nil : nnL [] = [] := rfl
@[simp] theorem hasSlL_cons (c : Cell) : hasSlL (c :: cs) = (c.hasSl || hasSlL cs) := rfl
@[simp] theorem hasSlL_nil : hasSlL [] = false := rfl
@[simp] theorem owL_cons (c : Cell) : owL w (c :: cs) = owC w c ++ owL w cs := rfl
@[simp] theorem owL_nil : owL w [] = [] := rfl
@[simp] theorem vwL_cons (c : Cell) : vwL w (c :: cs) = vwC w c ++ vwL w cs := rfl
@[simp] theorem vwL_nil : vwL w [] = [] := rfl
@[simp] theorem pureL_cons (c : Cell) : pureL (c :: cs) = (c.pureB && pureL cs) := rfl
@[simp] theorem pureL_nil : pureL [] = true := rfl
@[simp] theorem pureL_append : pureL (cs ++ ds) = (pureL cs && pureL ds) := by simp [pureL]
@[simp] theorem pureLL_cons (l : List Cell) (els : List (List Cell)) : pureLL (l :: els) = (pureL l && pureLL els) := rfl
@[simp] theorem pureLL_nil : pureLL [] = true := rfl
@[simp] theorem pureLL_append (a b : List (List Cell)) : pureLL (a ++ b) = (pureLL a && pureLL b) := by simp [pureLL]
@[simp] theorem fixLL_cons (l : List Cell) (els : List (List Cell)) : fixLL bx ns (l :: els) = fixL bx ns l :: fixLL bx ns els := rfl
@[simp] theorem fixLL_nil : fixLL bx ns [] = [] := rfl
@[simp] theorem fixLL_append (a b : List (List Cell)) : fixLL bx ns (a ++ b) = fixLL bx ns a ++ fixLL bx ns b := by simp [fixLL]
end
attribute [simp] viewL_append nmL_append fixL_append nnL_append hasSlL_append owL_append vwL_append resL_append
attribute [simp] pureL_stab viewL_stab nmL_stab fixL_stab nnL_stab landL_stab resL_stab owL_stab vwL_stab pureLL_map fixLL_map landL_append_stab
attribute [simp] runL runU run1 step1 goes eff rd rds rdO putD setAll Upd.app Upd.foot ASt.get PV.cells partC TI.agg pureOp rdParts ofConst ofCell ofCells fieldOf szOf places fillC idxOf bndOf bin intBin shiftBin eqRes appendOp copyOp callOp look tailOf elsOf viewC viewL nmC argP argPs nmP ioP ioOut
  landL landP landPs landR hasSlP hasSlR Cell.hasSl Cell.isSl nodupB calleeF viewEls nmPs frzL frzOk newVer getB setB setBs forget keepB fixP fixC mk1 mkAll isNil loadAll loadRes resC resL resP resPs owC vwC owP vwP ioIn ioBack ret1 resOf Cell.pureB Cell.stab Cell.nn PV.nnB Zc.cell minInts chunk cellEq cellsEq outOf thenQ FinQ
@[simp] theorem pb_and (k : IntKind) (x y : Int) : pureOf (Op.intBits .and k x y) = some (.int k (bits .and k x y)) := rfl
@[simp] theorem pb_or (k : IntKind) (x y : Int) : pureOf (Op.intBits .or k x y) = some (.int k (bits .or k x y)) := rfl
@[simp] theorem pb_xor (k : IntKind) (x y : Int) : pureOf (Op.intBits .xor k x y) = some (.int k (bits .xor k x y)) := rfl
@[simp] theorem pb_andNot (k : IntKind) (x y : Int) : pureOf (Op.intBits .andNot k x y) = some (.int k (bits .andNot k x y)) := rfl
@[simp] theorem int_beq (a b : Int) : (a == b) = decide (a = b) := by rw [Bool.eq_iff_iff]; simp
@[simp] theorem int_bne (a b : Int) : (a != b) = !decide (a = b) := by rw [bne, int_beq]

/-! contracts by encoders -/
/-- F: at the arguments enc a the result is g a -/
noncomputable def lift {α : Type} (enc : α → List PV) (g : α → Option (PV × List (List Cell))) : List PV → Option (PV × List (List Cell)) := fun ps => by
  classical
  exact if h : ∃ a, enc a = ps then g (Classical.choose h) else none
theorem lift_eq {α : Type} {enc : α → List PV} {g : α → Option (PV × List (List Cell))} (hi : ∀ a b, enc a = enc b → a = b) (a : α) : lift enc g (enc a) = g a := by
  unfold lift
  have h : ∃ b, enc b = enc a := ⟨a, rfl⟩
  rw [dif_pos h]
  exact congrArg g (hi _ _ (Classical.choose_spec h))
theorem lift_inv {α : Type} {enc : α → List PV} {g : α → Option (PV × List (List Cell))} {ps : List PV} {r : PV × List (List Cell)} (h : lift enc g ps = some r) : ∃ a, ps = enc a ∧ g a = some r := by
  unfold lift at h
  split at h
  · rename_i he
    exact ⟨_, (Classical.choose_spec he).symm, h⟩
  · simp at h
/-- a table of few functions -/
def tab : List (Nat × (List PV → Option (PV × List (List Cell)))) → Tab
  | [], _ => none
  | (g, F) :: l, f => if f = g then some F else tab l f
def AllI (P : Program) (G : Glob) : List (Nat × (List PV → Option (PV × List (List Cell)))) → Prop
  | [] => True
  | (g, F) :: l => Impl P G (g % 1000000) F ∧ AllI P G l
theorem tab_ok {P : Program} {G : Glob} : ∀ {l : List (Nat × (List PV → Option (PV × List (List Cell))))}, AllI P G l → ∀ f F, tab l f = some F → Impl P G (f % 1000000) F
  | [], _, f, F, h => by simp [tab] at h
  | (g, H) :: l, ha, f, F, h => by
    simp only [tab] at h
    split at h
    · rename_i hf
      simp at h
      subst hf h
      exact ha.1
    · exact tab_ok ha.2 f F h
/-- what arguments that stand for something satisfy -/
theorem Okay.get {ps : List PV} {i : Nat} {p : PV} (h : Okay ps) (hi : ps[i]? = some p) : ∃ S w, (∃ c v, p = .one c ∧ RepC S w c v) ∨ (∃ cs vs, p = .agg cs ∧ RepL S w cs vs) ∨ (∃ f, p = .fn f) ∨ (∃ cs, p = .io cs) := by
  obtain ⟨S, w, ks, vs, h⟩ := h
  refine ⟨S, w, ?_⟩
  induction h generalizing i with
  | nil => simp at hi
  | one h1 _ ih =>
    cases i with
    | zero => simp at hi; subst hi; exact .inl ⟨_, _, rfl, h1⟩
    | succ i => exact ih (by simpa using hi)
  | agg h1 _ ih =>
    cases i with
    | zero => simp at hi; subst hi; exact .inr (.inl ⟨_, _, rfl, h1⟩)
    | succ i => exact ih (by simpa using hi)
  | fn _ ih =>
    cases i with
    | zero => simp at hi; subst hi; exact .inr (.inr (.inl ⟨_, rfl⟩))
    | succ i => exact ih (by simpa using hi)
  | io _ _ _ ih =>
    cases i with
    | zero => simp at hi; subst hi; exact .inr (.inr (.inr ⟨_, rfl⟩))
    | succ i => exact ih (by simpa using hi)
theorem Okay.len {ps : List PV} {i : Nat} {o : Own} {els : List (List Cell)} (h : Okay ps) (hi : ps[i]? = some (.one (.slice o els))) : els.length ≤ maxLen := by
  obtain ⟨S, w, h⟩ := h.get hi
  rcases h with ⟨c, v, h1, h2⟩ | ⟨cs, vs, h1, _⟩ | ⟨f, h1⟩ | ⟨cs, h1⟩
  · injection h1 with h1
    subst h1
    obtain ⟨_, c, _, h3, h4⟩ := h2.len
    omega
  all_goals cases h1
theorem Okay.lenA {ps : List PV} {i j : Nat} {o : Own} {cs : List Cell} {els : List (List Cell)} (h : Okay ps) (hi : ps[i]? = some (.agg cs)) (hj : cs[j]? = some (.slice o els)) : els.length ≤ maxLen := by
  obtain ⟨S, w, h⟩ := h.get hi
  rcases h with ⟨c, v, h1, h2⟩ | ⟨cs, vs, h1, h2⟩ | ⟨f, h1⟩ | ⟨cs, h1⟩
  · cases h1
  · injection h1 with h1
    subst h1
    obtain ⟨u, _, hu⟩ := h2.get hj
    obtain ⟨_, c, _, h3, h4⟩ := hu.len
    omega
  all_goals cases h1
end Go.Av
end
section
namespace Go.Av
open Go.RowKit
set_option linter.unusedVariables false

/-! numbers -/
abbrev iC (k : IntKind) (x : Int) : Cell := .v (.int k x)
abbrev iP (x : Int) : PV := .one (.v (.int .i64 x))
abbrev bP (b : Bool) : PV := .one (.v (.bool b))
def ints (k : IntKind) (l : List Int) : List Cell := l.map fun x => .v (.int k x)
section
variable {k : IntKind} {l m : List Int}
@[simp] theorem ints_len : (ints k l).length = l.length := by simp [ints]
@[simp] theorem ints_stab : stabL (ints k l) = true := by simp [ints, stabL, Cell.stab]
@[simp] theorem ints_noSl : hasSlL (ints k l) = false := by simp [ints, hasSlL, Cell.hasSl, Cell.isSl]
@[simp] theorem ints_get (i : Nat) : (ints k l)[i]? = (l[i]?).map fun x => .v (.int k x) := by simp [ints]
theorem ints_take (n : Nat) : (ints k l).take n = ints k (l.take n) := by simp [ints, List.map_take]
theorem ints_drop (n : Nat) : (ints k l).drop n = ints k (l.drop n) := by simp [ints, List.map_drop]
theorem ints_append : ints k (l ++ m) = ints k l ++ ints k m := by simp [ints]
theorem ints_inj (h : ints k l = ints k m) : l = m := by
  unfold ints at h
  have hi : Function.Injective (fun x : Int => Cell.v (.int k x)) := fun a b h => by injection h with h; injection h
  exact (List.map_inj_right (fun a b h => hi h)).1 h
theorem ints_put {i : Nat} (x : Int) (hi : i < l.length) : putCells (ints k l) i [.v (.int k x)] = ints k (l.set i x) := by
  apply List.ext_getElem?
  intro j
  rw [put_get (by simp; omega)]
  simp only [ints_get, List.getElem?_set, List.length_cons, List.length_nil]
  by_cases hj : i = j
  · subst hj
    simp [hi]
  · have : ¬ (i ≤ j ∧ j < i + 1) := by omega
    simp [this, hj]
theorem ints_eq : ∀ {a b : List Int}, a.length = b.length → cellsEq (ints k a) (ints k b) = some (a == b)
  | [], [], _ => rfl
  | x :: a, y :: b, h => by
    have ih := ints_eq (a := a) (b := b) (by simpa using h)
    simp only [ints] at ih
    simp [ints, ih, List.cons_beq_cons]
end
/-- arrays of numbers -/
structure Arr (n : Nat) where
  l : List Int
  hl : l.length = n
deriving DecidableEq
def arC {n : Nat} (k : IntKind) (a : Arr n) : List Cell := ints k a.l
section
variable {n : Nat} {k : IntKind}
@[simp] theorem arC_len (a : Arr n) : (arC k a).length = n := by simp [arC, a.hl]
@[simp] theorem arC_stab (a : Arr n) : stabL (arC k a) = true := by simp [arC]
@[simp] theorem arC_noSl (a : Arr n) : hasSlL (arC k a) = false := by simp [arC]
@[simp] theorem arC_take (a : Arr n) : (arC k a).take n = arC k a := List.take_of_length_le (by simp)
@[simp] theorem arC_eq (a b : Arr n) : cellsEq (arC k a) (arC k b) = some (decide (a = b)) := by
  unfold arC
  rw [ints_eq (by rw [a.hl, b.hl])]
  cases a; cases b
  simp
  rw [Bool.eq_iff_iff]
  simp
theorem arC_inj {a b : Arr n} (h : arC k a = arC k b) : a = b := by
  have := ints_inj h
  cases a; cases b
  simp_all
theorem arC_mk (l : List Int) (hl : l.length = n) : ints k l = arC k ⟨l, hl⟩ := rfl
end
/-- rows of numbers, as slices -/
def intsR (k : IntKind) (l : List Int) : List (List Cell) := l.map fun x => [.v (.int k x)]
abbrev isC (k : IntKind) (l : List Int) : Cell := .slice .no (intsR k l)
section
variable {k : IntKind} {l m : List Int}
@[simp] theorem intsR_len : (intsR k l).length = l.length := by simp [intsR]
@[simp] theorem intsR_pure : pureLL (intsR k l) = true := pureLL_map l (by simp [Cell.stab])
@[simp] theorem intsR_fix {bx : Boxes} {ns : List Nat} : fixLL bx ns (intsR k l) = intsR k l := fixLL_map l (by simp [Cell.stab])
@[simp] theorem intsR_get (i : Nat) : (intsR k l)[i]? = (l[i]?).map fun x => [.v (.int k x)] := by simp [intsR]
@[simp] theorem intsR_all : ∀ x ∈ intsR k l, x.length = 1 := by simp [intsR]
theorem intsR_take (n : Nat) : (intsR k l).take n = intsR k (l.take n) := by simp [intsR, List.map_take]
theorem intsR_drop (n : Nat) : (intsR k l).drop n = intsR k (l.drop n) := by simp [intsR, List.map_drop]
theorem intsR_append : intsR k l ++ intsR k m = intsR k (l ++ m) := by simp [intsR]
theorem intsR_flat : (intsR k l).flatten = ints k l := by
  induction l with
  | nil => rfl
  | cons x l ih => simp only [intsR, ints, List.map_cons, List.flatten_cons] at *; simp [ih]
theorem chunk_ints : ∀ {n : Nat} {l : List Int}, n ≤ l.length → chunk 1 n (ints k l) = intsR k (l.take n)
  | 0, l, _ => by simp [chunk, intsR]
  | n + 1, [], h => by simp at h
  | n + 1, x :: l, h => by
    have := chunk_ints (n := n) (l := l) (by simpa using h)
    simp only [ints, intsR] at this
    simp [chunk, ints, intsR, this]
theorem intsR_inj (h : intsR k l = intsR k m) : l = m := by
  unfold intsR at h
  have hi : Function.Injective (fun x : Int => [Cell.v (.int k x)]) := fun a b h => by injection h with h; injection h with h; injection h
  exact (List.map_inj_right (fun a b h => hi h)).1 h
theorem intsR_set (i : Nat) (x : Int) : (intsR k l).set i [.v (.int k x)] = intsR k (l.set i x) := by simp [intsR, List.map_set]
end
@[simp] theorem put_whole {cs ds : List Cell} (h : cs.length ≤ ds.length) : putCells cs 0 ds = ds := by
  unfold putCells
  rw [List.drop_of_length_le (by omega)]
  simp
@[simp] theorem put_succ (c : Cell) (cs : List Cell) (n : Nat) (ds : List Cell) : putCells (c :: cs) (n + 1) ds = c :: putCells cs n ds := by
  unfold putCells
  rw [show n + 1 + ds.length = (n + ds.length) + 1 by omega]
  simp
@[simp] theorem put_cons (c d : Cell) (cs ds : List Cell) : putCells (c :: cs) 0 (d :: ds) = d :: putCells cs 0 ds := by
  unfold putCells
  simp
@[simp] theorem put_nil (cs : List Cell) : putCells cs 0 [] = cs := by unfold putCells; simp
theorem put_head {ds cs : List Cell} : putCells (cs) 0 ds = ds ++ cs.drop ds.length := by unfold putCells; simp
theorem put_skip {xs cs ds : List Cell} {n : Nat} (h : xs.length ≤ n) : putCells (xs ++ cs) n ds = xs ++ putCells cs (n - xs.length) ds := by
  unfold putCells
  rw [List.take_append, List.drop_append, List.take_of_length_le h, List.drop_of_length_le (by omega)]
  simp
  congr 2
  omega
@[simp] theorem put_arC {n : Nat} {k : IntKind} (cs : List Cell) (a : Arr n) : putCells cs 0 (arC k a) = arC k a ++ cs.drop n := by unfold putCells; simp
@[simp] theorem put_arC_skip {n m : Nat} {k : IntKind} (a : Arr n) (cs ds : List Cell) (h : n ≤ m) : putCells (arC k a ++ cs) m ds = arC k a ++ putCells cs (m - n) ds := by
  have := put_skip (xs := arC k a) (cs := cs) (ds := ds) (n := m) (by simpa using h)
  simpa using this

attribute [simp] List.take_of_length_le List.drop_of_length_le List.take_append List.drop_append
/-- elements -/
def Arr.at {n : Nat} (a : Arr n) (i : Nat) : Int := a.l.getD i 0
def Arr.put {n : Nat} (a : Arr n) (i : Nat) (x : Int) : Arr n := ⟨a.l.set i x, by simp [a.hl]⟩
theorem arC_get {n : Nat} {k : IntKind} (a : Arr n) {i : Nat} (h : i < n) : (arC k a)[i]? = some (.v (.int k (a.at i))) := by
  have hl : i < a.l.length := by rw [a.hl]; exact h
  unfold arC
  rw [ints_get, List.getElem?_eq_getElem hl]
  simp [Arr.at, hl]
@[simp] theorem arC_getE {n : Nat} {k : IntKind} (a : Arr n) {i : Nat} (h : i < (arC k a).length) : (arC k a)[i] = .v (.int k (a.at i)) := by
  have h1 := arC_get (k := k) a (i := i) (by simpa using h)
  rw [List.getElem?_eq_getElem h] at h1
  injection h1
theorem arC_sub {n : Nat} {k : IntKind} (a : Arr n) {i : Nat} (h : i < n) : ((arC k a).drop i).take 1 = [.v (.int k (a.at i))] := by
  have h1 := arC_get (k := k) a h
  have hl : i < (arC k a).length := by simpa using h
  rw [List.getElem?_eq_getElem hl] at h1
  injection h1 with h1
  rw [List.drop_eq_getElem_cons hl, h1]
  rfl
theorem arC_put {n : Nat} {k : IntKind} (a : Arr n) {i : Nat} (h : i < n) (x : Int) : putCells (arC k a) i [.v (.int k x)] = arC k (a.put i x) := by
  unfold arC
  rw [ints_put x (by rw [a.hl]; exact h)]
  rfl
theorem Arr.put_put {n : Nat} (a : Arr n) (i : Nat) (x y : Int) : (a.put i x).put i y = a.put i y := by
  unfold Arr.put
  congr 1
  simp
theorem Arr.at_put {n : Nat} (a : Arr n) {i : Nat} (h : i < n) (x : Int) : (a.put i x).at i = x := by
  have := a.hl
  simp [Arr.at, Arr.put, show i < a.l.length by omega]
theorem Arr.at_put_ne {n : Nat} (a : Arr n) {i j : Nat} (h : i ≠ j) (x : Int) : (a.put i x).at j = a.at j := by
  simp [Arr.at, Arr.put, List.getElem?_set_ne h]
theorem Arr.ext {n : Nat} {a b : Arr n} (h : ∀ i, i < n → a.at i = b.at i) : a = b := by
  obtain ⟨a, ha⟩ := a
  obtain ⟨b, hb⟩ := b
  congr 1
  apply List.ext_getElem (by omega)
  intro i h1 h2
  have := h i (by omega)
  simpa [Arr.at, h1, h2] using this
theorem Arr.put_at {n : Nat} (a : Arr n) {i : Nat} (h : i < n) : a.put i (a.at i) = a := by
  apply Arr.ext
  intro j hj
  by_cases hij : i = j
  · subst hij; rw [Arr.at_put _ h]
  · rw [Arr.at_put_ne _ hij]
theorem wrap_i64 {n : Int} (h1 : -9223372036854775808 ≤ n) (h2 : n ≤ 9223372036854775807) : IntKind.i64.wrap n = n := by
  rw [IntKind.wrap_i64]; omega
/-- zeros -/
def zs (n : Nat) : List Int := List.replicate n 0
@[simp] theorem zs_len (n : Nat) : (zs n).length = n := by simp [zs]
theorem zs_get {n i : Nat} (h : i < n) : (zs n)[i]? = some 0 := by simp [zs, h]
def zA (n : Nat) : Arr n := ⟨zs n, by simp⟩
theorem zA_at {n i : Nat} : (zA n).at i = 0 := by
  simp [zA, zs, Arr.at, List.getElem?_replicate]
  split <;> rfl
@[simp] theorem zr_map (n : Nat) (k : IntKind) : (zr n (.int k)).map Zc.cell = arC k (zA n) := by simp [zr, arC, ints, zA, zs, Zc.cell]
@[simp] theorem zr_len (n : Nat) (z : Zc) : (zr n z).length = n := by simp [zr]
/-- pieces of the state -/
def und (n : Nat) : List PV := List.replicate n .undef
end Go.Av
end
section
namespace Go.Av
open Go.RowKit
set_option linter.unusedVariables false

def TypedFs (R : TypeId → List Cell → Prop) : List TypeId → List Cell → Prop
  | [], cs => cs = []
  | t :: ts, cs => ∃ a b, cs = a ++ b ∧ R t a ∧ TypedFs R ts b
/-- the cells of a value of a type -/
def Typed (tt : TT) : Nat → TypeId → List Cell → Prop
  | 0, _, _ => False
  | n + 1, t, cs => match tt t with
    | some i => (match i.kind with
      | .int k => ∃ x, cs = [.v (.int k x)] ∧ (Lit.int k x).wf = true
      | .bool => ∃ b, cs = [.v (.bool b)]
      | .str => ∃ s : ByteArray, cs = [.v (.string s)] ∧ s.size ≤ maxLen
      | .slice e => ∃ els, cs = [.slice .no els] ∧ els.length ≤ maxLen ∧ ∀ l ∈ els, Typed tt n e l
      | .struct fs => TypedFs (Typed tt n) (fs.map (·.2)) cs
      | .array m e => ∃ ps : List (List Cell), cs = ps.flatten ∧ ps.length = m ∧ ∀ l ∈ ps, Typed tt n e l
      | .other => False)
    | none => False
def okFs (tt : TT) (f : TypeId → Bool) : List (Nat × TypeId) → Nat → Nat → Bool
  | [], off, n => off == n
  | (o, t) :: fs, off, n => o == off && f t && (match szOf tt t with | some s => okFs tt f fs (off + s) n | none => false)
def okTy (tt : TT) : Nat → TypeId → Bool
  | 0, _ => false
  | n + 1, t => match tt t with
    | some i => (match i.kind with
      | .int _ => i.size == 1
      | .bool => i.size == 1
      | .str => i.size == 1
      | .slice e => i.size == 1 && okTy tt n e && (match szOf tt e with | some s => decide (0 < s) | none => false)
      | .struct fs => okFs tt (okTy tt n) fs 0 i.size
      | .array m e => okTy tt n e && (match szOf tt e with | some s => i.size == m * s | none => false)
      | .other => false)
    | none => false
theorem mapM_all {α β : Type} {f : α → Option β} : ∀ {l : List α} {r : List β}, l.mapM f = some r → ∀ a ∈ l, ∃ b, f a = some b
  | [], r, _, a, ha => by simp at ha
  | x :: l, r, h, a, ha => by
    rw [List.mapM_cons] at h
    cases hx : f x with
    | none => simp [hx] at h
    | some b =>
      cases hl : l.mapM f with
      | none => simp [hx, hl] at h
      | some r' =>
        rcases List.mem_cons.1 ha with rfl | ha
        · exact ⟨b, hx⟩
        · exact mapM_all hl a ha
theorem mapM_get {α β : Type} {f : α → Option β} : ∀ {l : List α} {r : List β}, l.mapM f = some r → ∀ {i : Nat} {a : α}, l[i]? = some a → ∃ b, r[i]? = some b ∧ f a = some b
  | [], r, _, i, a, ha => by simp at ha
  | x :: l, r, h, i, a, ha => by
    rw [List.mapM_cons] at h
    cases hx : f x with
    | none => simp [hx] at h
    | some b =>
      cases hl : l.mapM f with
      | none => simp [hx, hl] at h
      | some r' =>
        simp [hx, hl] at h
        subst h
        cases i with
        | zero => simp at ha; subst ha; exact ⟨b, by simp, hx⟩
        | succ i => simpa using mapM_get hl (by simpa using ha)
theorem mapM_len {α β : Type} {f : α → Option β} : ∀ {l : List α} {r : List β}, l.mapM f = some r → r.length = l.length
  | [], r, h => by simp at h; subst h; rfl
  | x :: l, r, h => by
    rw [List.mapM_cons] at h
    cases hx : f x with
    | none => simp [hx] at h
    | some b =>
      cases hl : l.mapM f with
      | none => simp [hx, hl] at h
      | some r' => simp [hx, hl] at h; subst h; simp [mapM_len hl]
section
variable {H : Type} {enc : TypeId × Value → H} {P : Program} {tt : TT} {w : World} {base : Nat} {spare : Nat → Bool} {held : Bool}
theorem cellsOf_tt (htt : ∀ t i, tt t = some i → tinfo P t = some i) {t : TypeId} {i : TI} (h : tt t = some i) : P.cellsOf t = i.size := by
  obtain ⟨info, d, z, h1, h2, h3, h4, _⟩ := (tinfo_spec (htt _ _ h)).ex
  simp [Program.cellsOf, h1, h4]
theorem cellsOf_sz (htt : ∀ t i, tt t = some i → tinfo P t = some i) {t : TypeId} {s : Nat} (h : szOf tt t = some s) : P.cellsOf t = s := by
  unfold szOf at h
  split at h <;> simp at h
  rename_i i hi
  rw [cellsOf_tt htt hi, h]
theorem trod_arr {t e : TypeId} {n fuel : Nat} {cs : List Value} {x : DataW H × List MemPlace} (ht : P.underlying t = some (.array n e)) (h : DataW.trod enc P w base spare held fuel t cs = some x) :
    ∃ m, fuel = m + 1 ∧ cs.length = P.cellsOf t ∧ ∀ i, i < n → ∃ y, DataW.trod enc P w base spare held m e ((cs.drop (i * P.cellsOf e)).take (P.cellsOf e)) = some y := by
  cases fuel with
  | zero => simp [DataW.trod] at h
  | succ m =>
    refine ⟨m, rfl, ?_⟩
    unfold DataW.trod at h
    rw [ht] at h
    split at h <;> simp_all
    rename_i h2
    obtain ⟨hl, xs, hxs, _⟩ := h
    intro i hi
    obtain ⟨⟨y1, y2⟩, hy⟩ := mapM_all hxs i (by simpa using hi)
    exact ⟨y1, y2, hy⟩
theorem mapM_cell {a : Addr} {vs : List Value} {n : Nat} (h : (List.range n).mapM (fun i => w.cell? (a.add i)) = some vs) : vs.length = n ∧ ∀ j, j < n → ∃ v, vs[j]? = some v ∧ w.cell? (a.add j) = some v := by
  refine ⟨by simpa using mapM_len h, fun j hj => ?_⟩
  obtain ⟨b, h1, h2⟩ := mapM_get h (i := j) (a := j) (by simp [hj])
  exact ⟨b, h1, h2⟩
theorem spot_none {a : Addr} {v : Value} (h : w.cell? a = some v) : a.spot = none ∧ a.block < w.heap.size := by
  unfold World.cell? at h
  split at h
  · rename_i hb
    split at h
    · simp at h
    · rename_i hs
      exact ⟨by simpa using hs, heap_lt hb⟩
  · simp at h
theorem fs_open (htt : ∀ t i, tt t = some i → tinfo P t = some i) {R : TypeId → List Cell → Prop} {S : Nat → Nat → Prop} {cs : List Value} {f : TypeId → Bool} : ∀ {fs : List (Nat × TypeId)} {off n : Nat}, okFs tt f fs off n = true → cs.length = n → (∀ o t, (o, t) ∈ fs → f t = true → ∃ cells, RepL S w cells ((cs.drop o).take (P.cellsOf t)) ∧ R t cells) →
    ∃ cells, RepL S w cells (cs.drop off) ∧ TypedFs R (fs.map (·.2)) cells
  | [], off, n, ho, hl, h => by
    simp [okFs] at ho
    exact ⟨[], by rw [List.drop_of_length_le (by omega)]; exact .nil, rfl⟩
  | (o, t) :: fs, off, n, ho, hl, h => by
    simp only [okFs, Bool.and_eq_true, beq_iff_eq] at ho
    obtain ⟨⟨rfl, hf⟩, ho⟩ := ho
    split at ho
    · rename_i s hs
      obtain ⟨c1, r1, t1⟩ := h o t (by simp) hf
      obtain ⟨c2, r2, t2⟩ := fs_open htt ho hl (fun o' t' hm => h o' t' (by simp [hm]))
      rw [cellsOf_sz htt hs] at r1
      refine ⟨c1 ++ c2, ?_, c1, c2, rfl, t1, t2⟩
      have := r1.append r2
      rw [← List.drop_drop, List.take_append_drop] at this
      exact this
    · simp at ho
/-- an argument that was read, as cells -/
theorem open_trod (htt : ∀ t i, tt t = some i → tinfo P t = some i) : ∀ (n : Nat) (t : TypeId) (fuel : Nat) (cs : List Value) (x : DataW H × List MemPlace), okTy tt n t = true → DataW.trod enc P w base spare held fuel t cs = some x →
    ∃ cells, RepL (fun b _ => b < w.heap.size) w cells cs ∧ Typed tt n t cells ∧ cs.length = P.cellsOf t := by
  intro n
  induction n with
  | zero => intro t fuel cs x ho; simp [okTy] at ho
  | succ n ih =>
    intro t fuel cs x ho hx
    simp only [okTy] at ho
    cases hi : tt t with
    | none => rw [hi] at ho; simp at ho
    | some i =>
      rw [hi] at ho
      simp only at ho
      have hts := tinfo_spec (htt _ _ hi)
      have hco := cellsOf_tt htt hi
      cases hk : i.kind with
      | other => rw [hk] at ho; simp at ho
      | int k =>
        rw [hk] at ho
        simp at ho
        obtain ⟨m, rfl, _, hwf⟩ := DataW.trod_int (hts.int hk) hx
        refine ⟨[.v (.int k m)], .cons (.v _ rfl (by simp)) .nil, ?_, by rw [hco, ho]; rfl⟩
        simp only [Typed, hi, hk]
        exact ⟨m, rfl, hwf⟩
      | bool =>
        rw [hk] at ho
        simp at ho
        have hu : P.underlying t = some .bool := by
          obtain ⟨info, d, z, h1, h2, h3, h4, h5, _⟩ := hts.ex
          rw [hk] at h5
          cases d <;> simp [tkind] at h5
          exact h2
        obtain ⟨m, rfl, _⟩ := DataW.trod_bool hu hx
        refine ⟨[.v (.bool m)], .cons (.v _ rfl (by simp)) .nil, ?_, by rw [hco, ho]; rfl⟩
        simp only [Typed, hi, hk]
        exact ⟨m, rfl⟩
      | str =>
        rw [hk] at ho
        simp at ho
        obtain ⟨m, rfl, _, hwf⟩ := DataW.trod_string (hts.str hk) hx
        refine ⟨[.v (.string m)], .cons (.v _ rfl (by simp)) .nil, ?_, by rw [hco, ho]; rfl⟩
        simp only [Typed, hi, hk]
        exact ⟨m, rfl, hwf⟩
      | slice e =>
        rw [hk] at ho
        simp only [Bool.and_eq_true, beq_iff_eq] at ho
        obtain ⟨⟨ho1, ho2⟩, ho3⟩ := ho
        split at ho3
        · rename_i s hs
          have hs0 : 0 < s := by simpa using ho3
          have hcs := cellsOf_sz htt hs
          rcases DataW.trod_slice (hts.slice hk) hx with ⟨rfl, _⟩ | ⟨a, len, cap, elems, rest, m, _, rfl, _, hb, hlc, hcm, hel, helem, _, _⟩
          · refine ⟨[.slice .no []], .cons (RepC.no_empty none (e := 1) (by omega)) .nil, ?_, by rw [hco, ho1]; rfl⟩
            simp only [Typed, hi, hk]
            exact ⟨[], rfl, by simp, by simp⟩
          · have hat : ∀ j, j < len → ∃ cells vs, RepL (fun b _ => b < w.heap.size) w cells vs ∧ Typed tt n e cells ∧ vs.length = s ∧ ∀ q, q < s → ∃ v, vs[q]? = some v ∧ w.cell? ((a.add (j * s)).add q) = some v := by
              intro j hj
              have h1 := helem j hj
              rw [hcs] at h1
              have hjl : j < elems.length := by omega
              rw [List.getElem?_eq_getElem hjl] at h1
              cases hc : w.cells? base (a.add (j * s)) s with
              | none => rw [hc] at h1; simp at h1
              | some vs =>
                rw [hc] at h1
                simp only [Option.bind_some] at h1
                obtain ⟨cells, r1, r2, r3⟩ := ih e m vs _ ho2 h1
                unfold World.cells? at hc
                split at hc
                · obtain ⟨l1, l2⟩ := mapM_cell hc
                  exact ⟨cells, vs, r1, r2, l1, l2⟩
                · simp at hc
            -- choose
            have hall : ∃ els : List (List Cell), els.length = len ∧ ∀ (j : Nat) l, els[j]? = some l → ∃ vs, RepL (fun b _ => b < w.heap.size) w l vs ∧ Typed tt n e l ∧ vs.length = s ∧ ∀ q, q < s → ∃ v, vs[q]? = some v ∧ w.cell? ((a.add (j * s)).add q) = some v := by
              revert hat
              generalize len = L
              intro hat
              induction L with
              | zero => exact ⟨[], rfl, by simp⟩
              | succ len ihl =>
                obtain ⟨els, g1, g2⟩ := ihl (fun j hj => hat j (by omega))
                obtain ⟨cells, vs, r1, r2, r3, r4⟩ := hat len (by omega)
                refine ⟨els ++ [cells], by simp [g1], fun j l hl => ?_⟩
                rw [List.getElem?_append] at hl
                split at hl
                · exact g2 j l hl
                · have hj : j = len := by
                    have := getElem_pos hl
                    simp at this
                    omega
                  subst hj
                  simp [g1] at hl
                  subst hl
                  exact ⟨vs, r1, r2, r3, r4⟩
            obtain ⟨els, g1, g2⟩ := hall
            refine ⟨[.slice .no els], .cons ?_ .nil, ?_, by rw [hco, ho1]; rfl⟩
            · have hsp : els ≠ [] → a.spot = none ∧ a.block < w.heap.size := by
                intro hne
                have h0 : 0 < els.length := List.length_pos_iff.2 hne
                obtain ⟨vs, _, _, _, h4⟩ := g2 0 els[0] (by simp [h0])
                obtain ⟨v, _, h5⟩ := h4 0 hs0
                have := spot_none h5
                simpa [Addr.add] using this
              have hrep := RepC.slice (S := fun b _ => b < w.heap.size) (w := w) els (some a) cap s a.block a.off (fun i j => (w.cell? ⟨a.block, a.off + i * s + j, none⟩).getD undef) (by omega) hcm (fun l hl => by
                obtain ⟨j, hj⟩ := List.getElem?_of_mem hl
                obtain ⟨vs, r1, _, r3, _⟩ := g2 j l hj
                rw [r1.length, r3]) hs0 (fun hne => by
                obtain ⟨h1, _⟩ := hsp hne
                cases a
                simp at h1
                subst h1
                rfl) (fun j l hl q hq => by
                have hne : els ≠ [] := by rintro rfl; simp at hl
                obtain ⟨h1, h2⟩ := hsp hne
                obtain ⟨vs, _, _, _, h4⟩ := g2 j l hl
                obtain ⟨v, _, h5⟩ := h4 q hq
                have h6 : (a.add (j * s)).add q = ⟨a.block, a.off + j * s + q, none⟩ := by
                  obtain ⟨ab, ao, asp⟩ := a
                  simp only at h1
                  subst h1
                  rw [Addr.add_lit, Addr.add_lit]
                rw [h6] at h5
                exact ⟨h2, by rw [h5]; rfl⟩) (fun j l hl q x hx' => by
                have hne : els ≠ [] := by rintro rfl; simp at hl
                obtain ⟨h1, h2⟩ := hsp hne
                obtain ⟨vs, r1, _, r3, h4⟩ := g2 j l hl
                have hq : q < s := by rw [← r3, ← r1.length]; exact getElem_pos hx'
                obtain ⟨v, h7, h5⟩ := h4 q hq
                have h6 : (a.add (j * s)).add q = ⟨a.block, a.off + j * s + q, none⟩ := by
                  obtain ⟨ab, ao, asp⟩ := a
                  simp only at h1
                  subst h1
                  rw [Addr.add_lit, Addr.add_lit]
                rw [h6] at h5
                obtain ⟨v', h8, h9⟩ := r1.get hx'
                rw [h7] at h8
                injection h8 with h8
                subst h8
                rw [h5]
                exact h9)
              rw [g1] at hrep
              exact hrep
            · simp only [Typed, hi, hk]
              refine ⟨els, rfl, by omega, fun l hl => ?_⟩
              obtain ⟨j, hj⟩ := List.getElem?_of_mem hl
              obtain ⟨_, _, r2, _⟩ := g2 j l hj
              exact r2
        · simp at ho3
      | struct fs =>
        rw [hk] at ho
        simp only at ho
        obtain ⟨fields, hu, rfl⟩ := hts.struct hk
        obtain ⟨xs, m, _, _, hl, hxl, hf⟩ := DataW.trod_struct hu hx
        obtain ⟨cells, r1, r2⟩ := fs_open (P := P) htt (cs := cs) (R := Typed tt n) (S := fun b _ => b < w.heap.size) (w := w) ho (by rw [hl, hco]) (fun o t' hm hok => by
          simp only [List.mem_map] at hm
          obtain ⟨fd, hfd, he⟩ := hm
          injection he with e1 e2
          subst e1 e2
          obtain ⟨j, hj⟩ := List.getElem?_of_mem hfd
          have hj' : fields[j]? = some fd := by simpa using hj
          have h1 := hf j fd hj'
          have hjl : j < xs.length := by have := getElem_pos hj; simp at this; omega
          rw [List.getElem?_eq_getElem hjl] at h1
          obtain ⟨cells, r1, r2, _⟩ := ih fd.type m _ _ hok h1
          exact ⟨cells, r1, r2⟩)
        refine ⟨cells, by simpa using r1, ?_, hl⟩
        simp only [Typed, hi, hk]
        exact r2
      | array m e =>
        rw [hk] at ho
        simp only [Bool.and_eq_true] at ho
        obtain ⟨ho1, ho2⟩ := ho
        split at ho2
        · rename_i s hs
          simp at ho2
          have hcs := cellsOf_sz htt hs
          obtain ⟨fu, _, hl, hall⟩ := trod_arr (hts.array hk) hx
          rw [hcs] at hall
          have key : ∀ q, q ≤ m → ∃ ps : List (List Cell), ps.length = q ∧ RepL (fun b _ => b < w.heap.size) w ps.flatten (cs.take (q * s)) ∧ ∀ l ∈ ps, Typed tt n e l := by
            intro q
            induction q with
            | zero => intro _; exact ⟨[], rfl, by simpa using All2.nil, by simp⟩
            | succ q ihq =>
              intro hq
              obtain ⟨ps, g1, g2, g3⟩ := ihq (by omega)
              obtain ⟨y, hy⟩ := hall q (by omega)
              obtain ⟨cells, r1, r2, _⟩ := ih e fu _ _ ho1 hy
              refine ⟨ps ++ [cells], by simp [g1], ?_, fun l hl => ?_⟩
              · have := g2.append r1
                rw [Nat.add_mul, Nat.one_mul, List.take_add]
                simpa using this
              · simp at hl
                rcases hl with hl | rfl
                · exact g3 l hl
                · exact r2
          obtain ⟨ps, g1, g2, g3⟩ := key m (Nat.le_refl _)
          refine ⟨ps.flatten, ?_, ?_, hl⟩
          · rw [List.take_of_length_le (by rw [hl, hco, ho2]; exact Nat.le_refl _)] at g2
            exact g2
          · simp only [Typed, hi, hk]
            exact ⟨ps, rfl, g1, g3⟩
        · simp at ho2
end
/-! what cells of a type are -/
section
variable {tt : TT} {n : Nat} {t e : TypeId} {i : TI} {cs : List Cell}
theorem Typed.int {k : IntKind} (h : Typed tt (n + 1) t cs) (hi : tt t = some i) (hk : i.kind = .int k) : ∃ x, cs = [.v (.int k x)] ∧ (Lit.int k x).wf = true := by
  simp only [Typed, hi, hk] at h; exact h
theorem Typed.arr {m : Nat} {k : IntKind} {j : TI} (h : Typed tt (n + 2) t cs) (hi : tt t = some i) (hk : i.kind = .array m e) (hj : tt e = some j) (hje : j.kind = .int k) : ∃ a : Arr m, cs = arC k a ∧ ∀ x ∈ a.l, (Lit.int k x).wf = true := by
  simp only [Typed, hi, hk] at h
  obtain ⟨ps, rfl, hl, hp⟩ := h
  have key : ∀ ps : List (List Cell), (∀ l ∈ ps, Typed tt (n + 1) e l) → ∃ l : List Int, l.length = ps.length ∧ ps.flatten = ints k l ∧ ∀ x ∈ l, (Lit.int k x).wf = true := by
    intro ps
    induction ps with
    | nil => intro _; exact ⟨[], rfl, rfl, by simp⟩
    | cons p ps ih =>
      intro hp
      obtain ⟨l, h1, h2, h3⟩ := ih fun l hl => hp l (by simp [hl])
      obtain ⟨x, rfl, hx⟩ := Typed.int (hp p (by simp)) hj hje
      refine ⟨x :: l, by simp [h1], by simp [ints, h2], fun y hy => ?_⟩
      rcases List.mem_cons.1 hy with rfl | hy
      · exact hx
      · exact h3 y hy
  obtain ⟨l, h1, h2, h3⟩ := key ps hp
  exact ⟨⟨l, by rw [h1, hl]⟩, h2, h3⟩
theorem Typed.row {α : Type} {f : α → List Cell} {R : α → Prop} (h : Typed tt (n + 1) t cs) (hi : tt t = some i) (hk : i.kind = .slice e) (hf : ∀ l, Typed tt n e l → ∃ a, l = f a ∧ R a) : ∃ L : List α, cs = [.slice .no (L.map f)] ∧ L.length ≤ maxLen ∧ ∀ a ∈ L, R a := by
  simp only [Typed, hi, hk] at h
  obtain ⟨els, rfl, hl, hp⟩ := h
  have key : ∀ els : List (List Cell), (∀ l ∈ els, Typed tt n e l) → ∃ L : List α, els = L.map f ∧ ∀ a ∈ L, R a := by
    intro els
    induction els with
    | nil => intro _; exact ⟨[], rfl, by simp⟩
    | cons l els ih =>
      intro hp
      obtain ⟨L, h1, h2⟩ := ih fun l hl => hp l (by simp [hl])
      obtain ⟨a, rfl, ha⟩ := hf l (hp l (by simp))
      refine ⟨a :: L, by simp [h1], fun b hb => ?_⟩
      rcases List.mem_cons.1 hb with rfl | hb
      · exact ha
      · exact h2 b hb
  obtain ⟨L, rfl, h2⟩ := key els hp
  exact ⟨L, rfl, by simpa using hl, h2⟩
theorem Typed.ints {k : IntKind} {j : TI} (h : Typed tt (n + 2) t cs) (hi : tt t = some i) (hk : i.kind = .slice e) (hj : tt e = some j) (hje : j.kind = .int k) : ∃ l : List Int, cs = [isC k l] ∧ l.length ≤ maxLen ∧ ∀ x ∈ l, (Lit.int k x).wf = true :=
  Typed.row h hi hk fun l hl => Typed.int hl hj hje
theorem Typed.fs {fs : List (Nat × TypeId)} (h : Typed tt (n + 1) t cs) (hi : tt t = some i) (hk : i.kind = .struct fs) : TypedFs (Typed tt n) (fs.map (·.2)) cs := by
  simp only [Typed, hi, hk] at h; exact h
theorem wf_i64 {x : Int} (h : (Lit.int .i64 x).wf = true) : -9223372036854775808 ≤ x ∧ x ≤ 9223372036854775807 := by
  simpa [Lit.wf, IntKind.has, IntKind.min, IntKind.max, IntKind.signed, IntKind.bits] using h
theorem wf_u8 {x : Int} (h : (Lit.int .u8 x).wf = true) : 0 ≤ x ∧ x ≤ 255 := by
  simpa [Lit.wf, IntKind.has, IntKind.min, IntKind.max, IntKind.signed, IntKind.bits] using h
end
end Go.Av
end
section
namespace Go.Av
open Go.RowKit
set_option linter.unusedVariables false
/-- a law that returns true -/
theorem law_of {P : Program} {G : Glob} {f : FuncId} {F : List PV → Option (PV × List (List Cell))} (h : Impl P G f F) {S : Nat → Nat → Prop} {w : World} {ps : List PV} {vs : List Value} (hg : GlobOk G S w) (hs : ∀ b o, S b o → b < w.heap.size) (ha : ArgsOk S w [] ps vs) (hF : F ps = some (bP true, [])) :
    Calls P f vs.toArray w fun e w' => e = .returned (.bool true) ∧ Below w.heap.size w w' := by
  refine (h.2 S w [] ps vs _ [] hg hs ha List.nodup_nil hF).mono ?_
  rintro e w' ⟨v, S', its, rfl, hr, _, _, hgr⟩
  have hv : v = .bool true := by
    cases hr with
    | base hr => cases hr with
      | one hr => cases hr with
        | pure hr => cases hr; rfl
  subst hv
  exact ⟨rfl, hgr.keep.os, hgr.keep.tape, hgr.keep.output, hgr.keep.size, fun b hb => hgr.keep.block b hb (by simp)⟩
theorem glob_none {S : Nat → Nat → Prop} {w : World} : GlobOk (fun _ => none) S w := fun g cs h => by simp at h
theorem args_agg {S : Nat → Nat → Prop} {w : World} {ks : List Nat} {cells : List Cell} {cs : Array Value} {ps : List PV} {vs : List Value} (h : RepL S w cells cs.toList) (h2 : ArgsOk S w ks ps vs) : ArgsOk S w ks (.agg cells :: ps) (.agg cs :: vs) := by
  have := ArgsOk.agg h h2
  simpa using this
theorem args_one {S : Nat → Nat → Prop} {w : World} {ks : List Nat} {c : Cell} {v : Value} {ps : List PV} {vs : List Value} (h : RepL S w [c] [v]) (h2 : ArgsOk S w ks ps vs) : ArgsOk S w ks (.one c :: ps) (v :: vs) := by
  cases h with
  | cons h _ => exact .one h h2
section
variable {H : Type} {enc : TypeId × Value → H} {P : Program} {tt : TT} {w w0 : World} {base b0 : Nat} {spare : Nat → Bool} {held : Bool} {r : Reach}
/-- an argument of one cell -/
theorem open_one (htt : ∀ t i, tt t = some i → tinfo P t = some i) (n : Nat) {t : TypeId} {v : Value} {d : DataW H} {ps : List MemPlace} (ho : okTy tt n t = true) (hc : v.cells.toList = [v]) (h : DataW.Trod enc P w base spare held t v d ps) :
    ∃ cells, RepL (fun b _ => b < w.heap.size) w cells [v] ∧ Typed tt n t cells := by
  obtain ⟨fuel, hf⟩ := h
  obtain ⟨cells, h1, h2, _⟩ := open_trod htt n t fuel _ _ ho hf
  rw [hc] at h1
  exact ⟨cells, h1, h2⟩
theorem open_slice (htt : ∀ t i, tt t = some i → tinfo P t = some i) (n : Nat) {t e : TypeId} {v : Value} {d : DataW H} {ps : List MemPlace} (ho : okTy tt n t = true) (ht : P.underlying t = some (.slice e)) (hv : Value.okWide P w0 r b0 t v) (h : DataW.Trod enc P w base spare held t v d ps) :
    ∃ cells, RepL (fun b _ => b < w.heap.size) w cells [v] ∧ Typed tt n t cells := by
  obtain ⟨a, l, c, rfl⟩ := WideShapes.okWide_slice ht hv
  exact open_one htt n ho rfl h
theorem open_int (htt : ∀ t i, tt t = some i → tinfo P t = some i) (n : Nat) {t : TypeId} {k : IntKind} {v : Value} {d : DataW H} {ps : List MemPlace} (ho : okTy tt n t = true) (ht : P.underlying t = some (.int k)) (hv : Value.okWide P w0 r b0 t v) (h : DataW.Trod enc P w base spare held t v d ps) :
    ∃ cells, RepL (fun b _ => b < w.heap.size) w cells [v] ∧ Typed tt n t cells := by
  obtain ⟨a, rfl⟩ := WideShapes.okWide_int ht hv
  exact open_one htt n ho rfl h
theorem open_string (htt : ∀ t i, tt t = some i → tinfo P t = some i) (n : Nat) {t : TypeId} {v : Value} {d : DataW H} {ps : List MemPlace} (ho : okTy tt n t = true) (ht : P.underlying t = some .string) (hv : Value.okWide P w0 r b0 t v) (h : DataW.Trod enc P w base spare held t v d ps) :
    ∃ cells, RepL (fun b _ => b < w.heap.size) w cells [v] ∧ Typed tt n t cells := by
  obtain ⟨a, rfl⟩ := WideShapes.okWide_string ht hv
  exact open_one htt n ho rfl h
theorem open_bool (htt : ∀ t i, tt t = some i → tinfo P t = some i) (n : Nat) {t : TypeId} {v : Value} {d : DataW H} {ps : List MemPlace} (ho : okTy tt n t = true) (ht : P.underlying t = some .bool) (hv : Value.okWide P w0 r b0 t v) (h : DataW.Trod enc P w base spare held t v d ps) :
    ∃ cells, RepL (fun b _ => b < w.heap.size) w cells [v] ∧ Typed tt n t cells := by
  obtain ⟨a, rfl⟩ := WideShapes.okWide_bool ht hv
  exact open_one htt n ho rfl h
theorem open_agg (htt : ∀ t i, tt t = some i → tinfo P t = some i) (n : Nat) {t : TypeId} {cs : Array Value} {d : DataW H} {ps : List MemPlace} (ho : okTy tt n t = true) (h : DataW.Trod enc P w base spare held t (.agg cs) d ps) :
    ∃ cells, RepL (fun b _ => b < w.heap.size) w cells cs.toList ∧ Typed tt n t cells := by
  obtain ⟨fuel, hf⟩ := h
  obtain ⟨cells, h1, h2, _⟩ := open_trod htt n t fuel _ _ ho hf
  exact ⟨cells, h1, h2⟩
theorem open_struct (htt : ∀ t i, tt t = some i → tinfo P t = some i) (n : Nat) {t : TypeId} {fs : Array Field} {v : Value} {d : DataW H} {ps : List MemPlace} (ho : okTy tt n t = true) (ht : P.underlying t = some (.struct fs)) (hv : Value.okWide P w0 r b0 t v) (h : DataW.Trod enc P w base spare held t v d ps) :
    ∃ cells cs, v = .agg cs ∧ RepL (fun b _ => b < w.heap.size) w cells cs.toList ∧ Typed tt n t cells := by
  obtain ⟨a, rfl, _⟩ := WideShapes.okWide_struct ht hv
  obtain ⟨cells, h1, h2⟩ := open_agg htt n ho h
  exact ⟨cells, a, rfl, h1, h2⟩
theorem okWide_array {t e : TypeId} {m : Nat} {v : Value} (ht : P.underlying t = some (.array m e)) (h : Value.okWide P w0 r b0 t v) : ∃ cs, v = .agg cs ∧ cs.size = P.cellsOf t := by
  unfold Value.okWide at h
  rw [ht] at h
  cases v <;> simp_all
theorem open_array (htt : ∀ t i, tt t = some i → tinfo P t = some i) (n : Nat) {t e : TypeId} {m : Nat} {v : Value} {d : DataW H} {ps : List MemPlace} (ho : okTy tt n t = true) (ht : P.underlying t = some (.array m e)) (hv : Value.okWide P w0 r b0 t v) (h : DataW.Trod enc P w base spare held t v d ps) :
    ∃ cells cs, v = .agg cs ∧ RepL (fun b _ => b < w.heap.size) w cells cs.toList ∧ Typed tt n t cells := by
  obtain ⟨a, rfl, _⟩ := okWide_array ht hv
  obtain ⟨cells, h1, h2⟩ := open_agg htt n ho h
  exact ⟨cells, a, rfl, h1, h2⟩
end
end Go.Av
end
