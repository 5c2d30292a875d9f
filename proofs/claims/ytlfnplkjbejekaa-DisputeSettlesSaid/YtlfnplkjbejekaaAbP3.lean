import Derived.Test.YtlfnplkjbejekaaAbP2
section
namespace Go.Ab
open Go.RowKit
set_option linter.unusedVariables false

section
variable {tt : TT} {T : Tab} {ops : List Oper}
theorem rdT_congr {env env' : Env} {x : Operand} (h : ∀ t, x = .tmp t → env t = env' t) : rdT env x = rdT env' x := by
  cases x with
  | tmp t => simp [rdT, h t rfl]
  | _ => rfl
theorem rd_congr {env env' : Env} {x : Operand} (h : ∀ t, x = .tmp t → env t = env' t) : rd env x = rd env' x := by
  unfold rd; rw [rdT_congr h]
theorem taken_congr {env env' : Env} {x : Operand} (h : ∀ t, x = .tmp t → env t = env' t) : taken env x = taken env' x := by
  cases x with
  | tmp t => simp [taken, h t rfl]
  | _ => rfl
theorem takenT_congr {t : TypeId} {env env' : Env} {x : Operand} (h : ∀ t, x = .tmp t → env t = env' t) : takenT tt t env x = takenT tt t env' x := by
  unfold takenT; rw [taken_congr h]
theorem rds_congr {env env' : Env} : ∀ {l : List Operand}, (∀ x ∈ l, ∀ t, x = .tmp t → env t = env' t) → rds env l = rds env' l
  | [], _ => rfl
  | x :: l, h => by
    simp only [rds]
    rw [rd_congr (h x (by simp)), rds_congr fun y hy => h y (by simp [hy])]
theorem rdParts_congr {env env' : Env} : ∀ {l : List (Nat × Operand)}, (∀ x ∈ l, ∀ t, x.2 = .tmp t → env t = env' t) → rdParts env l = rdParts env' l
  | [], _ => rfl
  | (i, x) :: l, h => by
    simp only [rdParts]
    rw [rd_congr (h (i, x) (by simp)), rdParts_congr fun y hy => h y (by simp [hy])]
theorem mem_tmpsOf {l : List Operand} {t : Nat} (h : Operand.tmp t ∈ l) : t ∈ tmpsOf l := List.mem_filterMap.2 ⟨_, h, rfl⟩
theorem pureOp_congr {env env' : Env} {op : Op} (h : ∀ x ∈ op.operands.toList, ∀ t, x = .tmp t → env t = env' t) : pureOp tt T env op = pureOp tt T env' op := by
  cases op
  case pick c x y =>
    simp only [Op.operands] at h
    simp only [pureOp]
    rw [rd_congr (h c (by simp))]
    split
    · rename_i t _
      cases t
      · exact rd_congr (h y (by simp))
      · exact rd_congr (h x (by simp))
    · rfl
  case build t parts =>
    simp only [pureOp]
    rw [rdParts_congr (l := parts.toList) fun x hx t ht => h x.2 (by simp [Op.operands]; exact ⟨x.1, by simpa using hx⟩) t ht]
  case binOp op t x y t' =>
    simp only [Op.operands] at h
    simp only [pureOp]
    rw [rd_congr (h x (by simp)), rd_congr (h y (by simp))]
  case unOp op t x =>
    simp only [Op.operands] at h
    cases op <;> simp only [pureOp] <;> rw [rd_congr (h x (by simp))]
  case convert s d x =>
    simp only [Op.operands] at h
    simp only [pureOp]
    rw [rd_congr (h x (by simp))]
  case fieldAddr s x f =>
    simp only [Op.operands] at h
    simp only [pureOp]
    rw [rd_congr (h x (by simp))]
  case field s x f =>
    simp only [Op.operands] at h
    simp only [pureOp]
    rw [rd_congr (h x (by simp))]
  case indexAddr t x y =>
    simp only [Op.operands] at h
    simp only [pureOp]
    rw [rd_congr (h x (by simp)), rd_congr (h y (by simp))]
  case index t x y =>
    simp only [Op.operands] at h
    simp only [pureOp]
    rw [rd_congr (h x (by simp)), rd_congr (h y (by simp))]
  case extract x n =>
    simp only [Op.operands] at h
    simp only [pureOp]
    rw [rd_congr (h x (by simp))]
  case call c =>
    unfold pureOp
    split <;> try rfl
    all_goals first
      | (rename_i heq; cases heq; done)
      | skip
    rename_i x t heq
    injection heq with heq
    subst heq
    rw [rd_congr (h x (by simp [Op.operands, Call.operands]))]
  all_goals rfl
theorem makeOp_congr {env env' : Env} {op : Op} (h : ∀ x ∈ op.operands.toList, ∀ t, x = .tmp t → env t = env' t) : makeOp tt T env op = makeOp tt T env' op := by
  unfold makeOp
  split
  · rename_i f args ts
    rw [rds_congr fun x hx => h x (by simp [Op.operands, Call.operands]; right; simpa using hx)]
  · rename_i t len parts
    rw [rdParts_congr (l := parts.toList) fun x hx t ht => h x.2 (by simp [Op.operands]; exact ⟨x.1, by simpa using hx⟩) t ht]
  · rfl
theorem eff_congr {env env' : Env} {o : Oper} {bx bx' : List Box} (h : ∀ x ∈ o.op.operands.toList, ∀ t, x = .tmp t → env t = env' t) (hb : rwB tt ops o = true → bx = bx') :
    eff tt T ops o env bx = eff tt T ops o env' bx' := by
  have hp := pureOp_congr (tt := tt) (T := T) h
  have hm := makeOp_congr (tt := tt) (T := T) h
  unfold eff
  unfold rwB at hb
  cases hop : o.op <;> rw [hop] at h hp hm hb <;> simp only [Op.operands] at h <;> simp only at hb ⊢
  case move x => rw [taken_congr (h x (by simp)), rd_congr (h x (by simp))]
  case assign x => rw [takenT_congr (h x (by simp))]
  case alloc t => rw [hb trivial]
  case box t x => rw [hb trivial, rd_congr (h x (by simp))]
  case load t x =>
    rw [rd_congr (h x (by simp))]
    cases hr : refAddr tt ops 10 x with
    | true => simp only [if_true]
    | false => rw [hb (by simp [hr])]
  case store t x y => rw [hb trivial, rd_congr (h x (by simp)), takenT_congr (h y (by simp))]
  case call c =>
    split
    all_goals first
      | (rename_i heq; cases heq; done)
      | skip
    · rename_i s y t t' heq
      injection heq with heq
      subst heq
      rw [rd_congr (h y (by simp [Call.operands])), h (.tmp s) (by simp [Call.operands]) s rfl]
    · rename_i y t t' heq
      injection heq with heq
      subst heq
      rw [rd_congr (h y (by simp [Call.operands]))]
    · rw [hp, hm]
  all_goals rw [hp, hm]

theorem goes_congr {env env' : Env} {o : Oper} (h : ∀ t ∈ rdS ops o, env t = env' t) : goes ops env o.guard = goes ops env' o.guard := by
  unfold goes
  cases hg : o.guard with
  | none => rfl
  | some gw =>
    obtain ⟨j, want⟩ := gw
    simp only
    cases hj : ops[j]? with
    | none => rfl
    | some o' =>
      simp only
      cases hd : o'.dst with
      | none => rfl
      | some d =>
        simp only
        rw [h d (by simp [rdS, hg, hj, hd])]
theorem step1_congr {st st' : ASt} {o : Oper} (h : ∀ t ∈ rdS ops o, st.get t = st'.get t) (hb : rwB tt ops o = true → st.boxes = st'.boxes) : step1 tt T ops o st = step1 tt T ops o st' := by
  unfold step1
  rw [goes_congr h, eff_congr (fun x hx t ht => h t (by subst ht; exact List.mem_append_left _ (mem_tmpsOf hx))) hb]

theorem putD_slots {d : Option Nat} {p : PV} {x : Nat × PV} (h : x ∈ putD d p) : x.1 ∈ d.toList := by
  cases d with
  | none => simp [putD] at h
  | some d => simp [putD] at h; simp [h]
theorem taken_slots {env : Env} {x : Operand} {p : PV} {ws : List (Nat × PV)} (h : taken env x = some (p, ws)) {y : Nat × PV} (hy : y ∈ ws) : x = .tmp y.1 := by
  cases x with
  | tmp s => simp [taken] at h; obtain ⟨_, rfl⟩ := h; simp at hy; simp [hy]
  | const v =>
    simp only [taken] at h
    split at h <;> simp at h
    obtain ⟨_, rfl⟩ := h
    simp at hy
  | global _ => simp [taken, rdT] at h
  | func _ => simp [taken, rdT] at h
theorem takenT_slots {t : TypeId} {env : Env} {x : Operand} {p : PV} {ws : List (Nat × PV)} (h : takenT tt t env x = some (p, ws)) {y : Nat × PV} (hy : y ∈ ws) : x = .tmp y.1 := by
  unfold takenT at h
  split at h
  · simp at h
    obtain ⟨_, rfl⟩ := h
    simp at hy
  · exact taken_slots h hy
theorem eff_foot {env : Env} {o : Oper} {bx : List Box} {u : Upd} (h : eff tt T ops o env bx = some u) : (∀ x ∈ u.slots, x.1 ∈ wrS ops o) ∧ (wrB tt ops o = false → u.boxes = none) := by
  unfold eff at h
  unfold wrS srcS wrB
  cases hop : o.op <;> rw [hop] at h <;> simp only at h ⊢
  case move x =>
    split at h
    · rename_i hw
      split at h <;> simp at h
      rename_i p ws ht
      subst h
      refine ⟨fun y hy => ?_, fun _ => rfl⟩
      simp only [List.mem_append] at hy
      rcases hy with hy | hy
      · have := taken_slots ht hy
        subst this
        simp [hw]
      · exact List.mem_append_right _ (putD_slots hy)
    · split at h <;> simp at h
      subst h
      exact ⟨fun y hy => List.mem_append_right _ (putD_slots hy), fun _ => rfl⟩
  case assign x =>
    split at h <;> simp at h
    rename_i p ws ht
    subst h
    refine ⟨fun y hy => ?_, fun _ => rfl⟩
    simp only [List.mem_append] at hy
    rcases hy with hy | hy
    · have := takenT_slots ht hy
      subst this
      simp
    · exact List.mem_append_right _ (putD_slots hy)
  case alloc t =>
    split at h <;> simp at h
    subst h
    exact ⟨fun y hy => List.mem_append_right _ (putD_slots hy), fun hb => by simp at hb⟩
  case box t x =>
    split at h
    · split at h <;> simp at h
      subst h
      exact ⟨fun y hy => List.mem_append_right _ (putD_slots hy), fun hb => by simp at hb⟩
    · simp at h
  case load t x =>
    split at h
    · split at h <;> simp at h
      subst h
      exact ⟨fun y hy => List.mem_append_right _ (putD_slots hy), fun _ => rfl⟩
    · split at h
      · simp at h
      rename_i hra
      split at h
      · split at h
        · rename_i hw
          split at h <;> simp at h
          subst h
          refine ⟨fun y hy => List.mem_append_right _ (putD_slots hy), fun hb => ?_⟩
          simp [hra] at hb
          simp [hb] at hw
        · split at h <;> simp at h
          subst h
          exact ⟨fun y hy => List.mem_append_right _ (putD_slots hy), fun _ => rfl⟩
      · simp at h
    · simp at h
  case store t x y =>
    split at h
    · rename_i p ws _ _ ht
      split at h
      · split at h <;> simp at h
        subst h
        refine ⟨fun z hz => ?_, fun hb => by simp at hb⟩
        have := takenT_slots ht hz
        subst this
        simp
      · simp at h
    · simp at h
  case call c =>
    have hrest : ∀ {h' : (match pureOp tt T env (.call c) with | some p => some (⟨putD o.dst p, none⟩ : Upd) | none => match makeOp tt T env (.call c) with | some p => some ⟨putD o.dst p, none⟩ | none => none) = some u} (l : List Nat), (∀ x ∈ u.slots, x.1 ∈ l ++ o.dst.toList) ∧ (True → u.boxes = none) := by
      intro h' l
      split at h'
      · simp at h'; subst h'; exact ⟨fun y hy => List.mem_append_right _ (putD_slots hy), fun _ => rfl⟩
      · split at h' <;> simp at h'
        subst h'
        exact ⟨fun y hy => List.mem_append_right _ (putD_slots hy), fun _ => rfl⟩
    split at h
    all_goals first
      | (rename_i heq; cases heq; done)
      | skip
    · rename_i s y t t' heq
      injection heq with heq
      subst heq
      simp only
      split at h
      · split at h
        · split at h
          · split at h
            · split at h <;> simp at h
              rename_i p d _ hd
              subst h
              refine ⟨fun z hz => ?_, fun _ => rfl⟩
              simp at hz
              rcases hz with rfl | rfl
              · simp
              · simp [hd]
            · simp at h
          · simp at h
        · simp at h
      · simp at h
    · rename_i y t t' heq
      injection heq with heq
      subst heq
      simp only
      split at h
      · split at h
        · split at h
          · split at h
            · split at h <;> simp at h
              rename_i p d _ hd
              subst h
              refine ⟨fun z hz => ?_, fun _ => rfl⟩
              simp at hz
              subst hz
              simp [hd]
            · simp at h
          · simp at h
        · simp at h
      · simp at h
    · exact hrest (h' := h) _
  all_goals
    split at h
    · simp at h; subst h; exact ⟨fun y hy => List.mem_append_right _ (putD_slots hy), fun _ => rfl⟩
    · split at h <;> simp at h
      subst h
      exact ⟨fun y hy => List.mem_append_right _ (putD_slots hy), fun _ => rfl⟩
theorem step1_foot {st : ASt} {o : Oper} {u : Upd} (h : step1 tt T ops o st = some u) : (∀ x ∈ u.slots, x.1 ∈ wrS ops o) ∧ (wrB tt ops o = false → u.boxes = none) := by
  unfold step1 at h
  split at h
  · exact eff_foot h
  · simp at h
    subst h
    exact ⟨fun y hy => List.mem_append_right _ (putD_slots hy), fun _ => rfl⟩
  · simp at h
end
end Go.Ab
end
section
namespace Go.Ab
open Go.RowKit
set_option linter.unusedVariables false

section
variable {tt : TT} {T : Tab} {ops : List Oper}
theorem setAll_get {ws : List (Nat × PV)} {env : List PV} {t : Nat} (h : ∀ x ∈ ws, x.1 ≠ t) : (setAll env ws)[t]? = env[t]? := by
  induction ws generalizing env with
  | nil => rfl
  | cons x ws ih =>
    obtain ⟨d, p⟩ := x
    simp only [setAll]
    rw [ih fun y hy => h y (by simp [hy]), List.getElem?_set_ne (h (d, p) (by simp))]
theorem app_get {u : Upd} {st : ASt} {t : Nat} (h : ∀ x ∈ u.slots, x.1 ≠ t) : (u.app st).get t = st.get t := by
  unfold ASt.get Upd.app
  simp only [List.getD_eq_getElem?_getD, setAll_get h]
theorem set_setAll {ws : List (Nat × PV)} {env : List PV} {d : Nat} {p : PV} (h : ∀ x ∈ ws, x.1 ≠ d) : setAll (env.set d p) ws = (setAll env ws).set d p := by
  induction ws generalizing env with
  | nil => rfl
  | cons x ws ih =>
    obtain ⟨d', p'⟩ := x
    simp only [setAll]
    have hne : d' ≠ d := h (d', p') (by simp)
    rw [List.set_comm _ _ (fun e => hne e.symm), ih fun y hy => h y (by simp [hy])]
theorem setAll_comm {ws ws' : List (Nat × PV)} {env : List PV} (h : ∀ x ∈ ws, ∀ y ∈ ws', x.1 ≠ y.1) : setAll (setAll env ws) ws' = setAll (setAll env ws') ws := by
  induction ws generalizing env with
  | nil => rfl
  | cons x ws ih =>
    obtain ⟨d, p⟩ := x
    simp only [setAll]
    rw [ih fun y hy => h y (by simp [hy]), set_setAll fun y hy => fun e => h (d, p) (by simp) y hy e.symm]
theorem apart_spec {l m : List Nat} (h : apart l m = true) : ∀ x ∈ l, x ∉ m := by
  unfold apart at h
  intro x hx hm
  have := List.all_eq_true.1 h x hx
  simp [hm] at this
theorem indep_spec {o o' : Oper} (h : indep tt ops o o' = true) :
    (∀ x ∈ wrS ops o, x ∉ rdS ops o') ∧ (∀ x ∈ wrS ops o, x ∉ wrS ops o') ∧ (∀ x ∈ wrS ops o', x ∉ rdS ops o) ∧ (wrB tt ops o = true → rwB tt ops o' = false) ∧ (wrB tt ops o' = true → rwB tt ops o = false) := by
  unfold indep at h
  simp only [Bool.and_eq_true] at h
  obtain ⟨⟨⟨⟨h1, h2⟩, h3⟩, h4⟩, h5⟩ := h
  refine ⟨apart_spec h1, apart_spec h2, apart_spec h3, fun hb => ?_, fun hb => ?_⟩
  · simpa [hb] using h4
  · simpa [hb] using h5
theorem wrB_rwB {o : Oper} (h : wrB tt ops o = true) : rwB tt ops o = true := by
  unfold wrB at h
  unfold rwB
  split at h <;> simp_all
theorem run1_eq {st : ASt} {o : Oper} : run1 tt T ops o st = (step1 tt T ops o st).map fun u => u.app st := by
  unfold run1
  cases step1 tt T ops o st <;> rfl
theorem step1_after {st : ASt} {o o' : Oper} {u : Upd} (hi : indep tt ops o o' = true) (hu : step1 tt T ops o st = some u) : step1 tt T ops o' (u.app st) = step1 tt T ops o' st := by
  obtain ⟨h1, h2, h3, h4, h5⟩ := indep_spec hi
  obtain ⟨f1, f2⟩ := step1_foot hu
  refine step1_congr (fun t ht => app_get fun x hx e => ?_) (fun hb => ?_)
  · have := f1 x hx
    rw [e] at this
    exact h1 t this ht
  · cases hw : wrB tt ops o with
    | true => rw [h4 hw] at hb; simp at hb
    | false => simp [Upd.app, f2 hw]
theorem indep_symm {o o' : Oper} (h : indep tt ops o o' = true) : indep tt ops o' o = true := by
  have hh := h
  unfold indep at h ⊢
  simp only [Bool.and_eq_true] at h ⊢
  obtain ⟨⟨⟨⟨h1, h2⟩, h3⟩, h4⟩, h5⟩ := h
  refine ⟨⟨⟨⟨h3, ?_⟩, h1⟩, h5⟩, h4⟩
  unfold apart
  refine List.all_eq_true.2 fun x hx => ?_
  have := apart_spec h2
  by_cases hc : (wrS ops o).contains x
  · exact absurd hx (this x (by simpa using hc))
  · simpa using hc
theorem run1_comm {st : ASt} {o o' : Oper} (hi : indep tt ops o o' = true) : (run1 tt T ops o st).bind (run1 tt T ops o') = (run1 tt T ops o' st).bind (run1 tt T ops o) := by
  rw [run1_eq, run1_eq]
  cases hu : step1 tt T ops o st with
  | none =>
    simp only [Option.map_none, Option.bind_none]
    cases hu' : step1 tt T ops o' st with
    | none => rfl
    | some u' =>
      simp only [Option.map_some, Option.bind_some]
      rw [run1_eq, step1_after (indep_symm hi) hu', hu]
      rfl
  | some u =>
    simp only [Option.map_some, Option.bind_some]
    rw [run1_eq, step1_after hi hu]
    cases hu' : step1 tt T ops o' st with
    | none => rfl
    | some u' =>
      simp only [Option.map_some, Option.bind_some]
      rw [run1_eq, step1_after (indep_symm hi) hu', hu]
      simp only [Option.map_some, Option.some.injEq]
      obtain ⟨h1, h2, h3, h4, h5⟩ := indep_spec hi
      obtain ⟨f1, f2⟩ := step1_foot hu
      obtain ⟨f1', f2'⟩ := step1_foot hu'
      unfold Upd.app
      simp only [ASt.mk.injEq]
      refine ⟨setAll_comm fun x hx y hy e => h2 _ (f1 x hx) (by rw [e]; exact f1' y hy), ?_⟩
      cases hw : wrB tt ops o with
      | true =>
        have hw' : wrB tt ops o' = false := by
          cases hw' : wrB tt ops o' with
          | false => rfl
          | true => have := wrB_rwB hw'; rw [h4 hw] at this; simp at this
        simp [f2' hw']
      | false => simp [f2 hw]

/-- what the listed operations do, in the order of the text -/
def stepI (tt : TT) (T : Tab) (ops : List Oper) (i : Nat) (st : ASt) : Option ASt := match ops[i]? with | some o => run1 tt T ops o st | none => some st
def runD (tt : TT) (T : Tab) (ops : List Oper) (D : Nat → Bool) : List Nat → ASt → Option ASt
  | [], st => some st
  | i :: l, st => if D i then (stepI tt T ops i st).bind (runD tt T ops D l) else runD tt T ops D l st
theorem runD_append {D : Nat → Bool} {l m : List Nat} {st : ASt} : runD tt T ops D (l ++ m) st = (runD tt T ops D l st).bind (runD tt T ops D m) := by
  induction l generalizing st with
  | nil => rfl
  | cons i l ih =>
    simp only [List.cons_append, runD]
    split
    · cases stepI tt T ops i st with
      | none => rfl
      | some st' => simp [ih]
    · exact ih
theorem runD_congr {D D' : Nat → Bool} {l : List Nat} {st : ASt} (h : ∀ i ∈ l, D i = D' i) : runD tt T ops D l st = runD tt T ops D' l st := by
  induction l generalizing st with
  | nil => rfl
  | cons i l ih =>
    simp only [runD]
    rw [h i (by simp)]
    have ih' : ∀ st, runD tt T ops D l st = runD tt T ops D' l st := fun st => ih fun j hj => h j (by simp [hj])
    split
    · congr 1; exact funext ih'
    · exact ih' st
theorem stepI_comm {i j : Nat} {st : ASt} (h : ∀ o o', ops[i]? = some o → ops[j]? = some o' → indep tt ops o o' = true) : (stepI tt T ops i st).bind (stepI tt T ops j) = (stepI tt T ops j st).bind (stepI tt T ops i) := by
  unfold stepI
  cases hi : ops[i]? with
  | none => simp
  | some o =>
    cases hj : ops[j]? with
    | none => simp
    | some o' => exact run1_comm (h o o' hi hj)
theorem runD_comm {D : Nat → Bool} {i : Nat} {l : List Nat} (h : ∀ j ∈ l, D j = true → ∀ o o', ops[i]? = some o → ops[j]? = some o' → indep tt ops o o' = true) {st : ASt} :
    (stepI tt T ops i st).bind (runD tt T ops D l) = (runD tt T ops D l st).bind (stepI tt T ops i) := by
  induction l generalizing st with
  | nil => simp [runD]
  | cons j l ih =>
    have ih' : ∀ {st : ASt}, (stepI tt T ops i st).bind (runD tt T ops D l) = (runD tt T ops D l st).bind (stepI tt T ops i) := ih fun k hk => h k (by simp [hk])
    by_cases hD : D j = true
    · have hc : ∀ st : ASt, (stepI tt T ops i st).bind (stepI tt T ops j) = (stepI tt T ops j st).bind (stepI tt T ops i) := fun st => stepI_comm (h j (by simp) hD)
      have e1 : runD tt T ops D (j :: l) = fun st => (stepI tt T ops j st).bind (runD tt T ops D l) := by funext st; simp [runD, hD]
      rw [e1]
      rw [← Option.bind_assoc, hc, Option.bind_assoc, Option.bind_assoc]
      congr 1
      funext st'
      exact ih'
    · have e1 : runD tt T ops D (j :: l) = runD tt T ops D l := by funext st; simp [runD, hD]
      rw [e1]
      exact ih'
theorem runD_insert {D : Nat → Bool} {i n : Nat} (hi : i < n) (hD : D i = false) (h : ∀ j, i < j → D j = true → ∀ o o', ops[i]? = some o → ops[j]? = some o' → indep tt ops o o' = true) {st : ASt} :
    runD tt T ops (fun k => D k || k == i) (List.range n) st = (runD tt T ops D (List.range n) st).bind (stepI tt T ops i) := by
  have hsplit : List.range n = List.range i ++ i :: (List.range' (i + 1) (n - (i + 1))) := by
    rw [List.range_eq_range', List.range_eq_range', show n = i + (1 + (n - (i + 1))) by omega, ← List.range'_append_1, Nat.zero_add]
    congr 1
    rw [Nat.add_comm 1, List.range'_succ]
    simp
    omega
  rw [hsplit, runD_append, runD_append]
  rw [runD_congr (D' := D) (l := List.range i) fun k hk => by
    have : k ≠ i := by simp at hk; omega
    simp [this]]
  rw [Option.bind_assoc]
  congr 1
  funext st'
  have e2 : runD tt T ops (fun k => D k || k == i) (List.range' (i + 1) (n - (i + 1))) = runD tt T ops D (List.range' (i + 1) (n - (i + 1))) := by
    funext st
    refine runD_congr fun k hk => ?_
    have : k ≠ i := by simp [List.mem_range'_1] at hk; omega
    simp [this]
  simp only [runD, hD, beq_self_eq_true, Bool.or_true, if_true, Bool.false_eq_true, if_false, e2]
  exact runD_comm fun j hj hDj => h j (by simp [List.mem_range'_1] at hj; omega) hDj
theorem runD_all {D : Nat → Bool} : ∀ (l : List Oper) (k : Nat) {st : ASt}, (∀ j, D j = true) → (∀ j, l[j]? = ops[k + j]?) → runD tt T ops D (List.range' k l.length) st = runL tt T ops l st
  | [], k, st, _, _ => rfl
  | o :: l, k, st, hD, h => by
    have h0 : ops[k]? = some o := by simpa using (h 0).symm
    simp only [List.length_cons, List.range'_succ, runD, hD, if_true, stepI, h0, runL]
    cases run1 tt T ops o st with
    | none => rfl
    | some st' =>
      simp only [Option.bind_some]
      exact runD_all l (k + 1) hD fun j => by have := h (j + 1); simpa [Nat.add_assoc, Nat.add_comm 1 j] using this
end
end Go.Ab
end
section
namespace Go.Ab
open Go.RowKit
set_option linter.unusedVariables false

section
variable {tt : TT} {T : Tab} {ops : List Oper}
inductive Anc (ops : List Oper) : Nat → Nat → Prop
  | base {j i o} : ops[j]? = some o → i ∈ predsOf o → Anc ops j i
  | step {j k i o} : ops[j]? = some o → k ∈ predsOf o → Anc ops k i → Anc ops j i
def Closed (ops : List Oper) (D : Nat → Bool) : Prop := ∀ (j : Nat) o, D j = true → ops[j]? = some o → ∀ p ∈ predsOf o, D p = true
theorem Closed.anc {D : Nat → Bool} (h : Closed ops D) {j i : Nat} (ha : Anc ops j i) (hj : D j = true) : D i = true := by
  induction ha with
  | base ho hi => exact h _ _ hj ho _ hi
  | step ho hk _ ih => exact ih (h _ _ hj ho _ hk)
theorem foldl_bit {acc : List Nat} : ∀ (l : List Nat) (s i : Nat), (l.foldl (fun s i => s ||| (2 ^ i ||| acc.getD i 0)) s).testBit i = true → s.testBit i = true ∨ ∃ p ∈ l, i = p ∨ (acc.getD p 0).testBit i = true
  | [], s, i, h => .inl h
  | p :: l, s, i, h => by
    rcases foldl_bit l _ i h with h | ⟨q, hq, h⟩
    · rw [Nat.testBit_or, Nat.testBit_or] at h
      simp only [Bool.or_eq_true] at h
      rcases h with h | h | h
      · exact .inl h
      · refine .inr ⟨p, by simp, .inl ?_⟩
        rw [Nat.testBit_two_pow] at h
        have := of_decide_eq_true h
        exact this.symm
      · exact .inr ⟨p, by simp, .inr h⟩
    · exact .inr ⟨q, by simp [hq], h⟩
theorem befL_ok : ∀ (l : List Oper) (acc : List Nat), (∀ k, l[k]? = ops[acc.length + k]?) → (∀ k i, (acc.getD k 0).testBit i = true → Anc ops k i) → ∀ k i, ((befL l acc).getD k 0).testBit i = true → Anc ops k i
  | [], acc, _, h => h
  | o :: l, acc, hl, h => by
    refine befL_ok l _ (fun k => ?_) (fun k i hk => ?_)
    · have := hl (k + 1)
      simpa [Nat.add_assoc, Nat.add_comm 1 k] using this
    · have h0 : ops[acc.length]? = some o := by simpa using (hl 0).symm
      simp only [List.getD_eq_getElem?_getD, List.getElem?_append] at hk
      split at hk
      · exact h k i (by simpa [List.getD_eq_getElem?_getD] using hk)
      · rename_i hge
        have hk0 : k = acc.length := by
          rcases Nat.lt_or_ge acc.length k with h' | h'
          · have : (1 : Nat) ≤ k - acc.length := by omega
            rw [List.getElem?_eq_none (by simpa using this)] at hk
            simp at hk
          · omega
        subst hk0
        simp at hk
        rcases foldl_bit (acc := acc) _ _ _ (by simpa [List.getD_eq_getElem?_getD] using hk) with h' | ⟨p, hp, h'⟩
        · simp at h'
        · rcases h' with rfl | h'
          · exact .base h0 hp
          · exact .step h0 hp (h p i h')
theorem drawOk_spec (h : drawOk tt ops = true) {j : Nat} {o : Oper} (hj : ops[j]? = some o) : (∀ p ∈ predsOf o, p < j) ∧ ∀ (i : Nat), i < j → ∀ o', ops[i]? = some o' → Anc ops j i ∨ indep tt ops o' o = true := by
  unfold drawOk at h
  have hlt := getElem_pos hj
  have h1 := List.all_eq_true.1 h j (by simpa using hlt)
  simp only [hj, Bool.and_eq_true] at h1
  refine ⟨fun p hp => by simpa using List.all_eq_true.1 h1.1 p hp, fun i hi o' hi' => ?_⟩
  have h2 := List.all_eq_true.1 h1.2 i (by simpa using hi)
  simp only [hi', Bool.or_eq_true] at h2
  exact h2.imp (fun h => befL_ok ops [] (by simp) (by simp) j i h) id

theorem insert_ok (hok : drawOk tt ops = true) {D : Nat → Bool} (hc : Closed ops D) {i : Nat} (hi : i < ops.length) (hD : D i = false) {st : ASt} :
    runD tt T ops (fun k => D k || k == i) (List.range ops.length) st = (runD tt T ops D (List.range ops.length) st).bind (stepI tt T ops i) :=
  runD_insert hi hD fun j hij hDj o o' ho ho' => by
    rcases (drawOk_spec hok ho').2 i hij o ho with h | h
    · have := hc.anc h hDj
      rw [hD] at this
      simp at this
    · exact h
theorem closed_insert {D : Nat → Bool} (hc : Closed ops D) {i : Nat} (hp : ∀ o, ops[i]? = some o → ∀ p ∈ predsOf o, D p = true) : Closed ops fun k => D k || k == i := by
  intro j o hj ho p hpp
  simp only [Bool.or_eq_true, beq_iff_eq] at hj ⊢
  left
  rcases hj with hj | rfl
  · exact hc j o hj ho p hpp
  · exact hp o ho p hpp
def missing (n : Nat) (D : Nat → Bool) : Nat := (List.range n).countP fun k => !D k
theorem countP_insert {D : Nat → Bool} {i : Nat} : ∀ (l : List Nat), i ∈ l → D i = false → l.countP (fun k => !(D k || k == i)) < l.countP (fun k => !D k)
  | [], h, _ => by simp at h
  | x :: l, h, hD => by
    have hle : l.countP (fun k => !(D k || k == i)) ≤ l.countP (fun k => !D k) := List.countP_mono_left fun y _ hy => by simp at hy ⊢; exact hy.1
    by_cases hx : x = i
    · subst hx
      simp only [List.countP_cons, hD]
      simp
      simp at hle
      omega
    · have hm : i ∈ l := by simpa [Ne.symm hx] using h
      have ih := countP_insert l hm hD
      simp only [List.countP_cons]
      have : (x == i) = false := by simpa using hx
      simp only [this, Bool.or_false]
      omega
theorem missing_lt {n : Nat} {D : Nat → Bool} {i : Nat} (hi : i < n) (hD : D i = false) : missing n (fun k => D k || k == i) < missing n D := countP_insert _ (by simpa using hi) hD
theorem first_missing {n : Nat} {D : Nat → Bool} : (∀ k, k < n → D k = true) ∨ ∃ i, i < n ∧ D i = false ∧ ∀ k, k < i → D k = true := by
  induction n with
  | zero => exact .inl fun k hk => by omega
  | succ n ih =>
    rcases ih with h | ⟨i, h1, h2, h3⟩
    · cases hn : D n with
      | true =>
        refine .inl fun k hk => ?_
        rcases Nat.lt_or_eq_of_le (Nat.le_of_lt_succ hk) with h' | h'
        · exact h k h'
        · rw [h']; exact hn
      | false => exact .inr ⟨n, by omega, hn, h⟩
    · exact .inr ⟨i, by omega, h2, h3⟩
theorem full {D : Nat → Bool} (h : ∀ k, k < ops.length → D k = true) {st : ASt} : runD tt T ops D (List.range ops.length) st = runL tt T ops ops st := by
  rw [runD_congr (D' := fun _ => true) fun i hi => h i (by simpa using hi), List.range_eq_range']
  exact runD_all ops 0 (fun _ => rfl) fun j => by simp
theorem some_of_full (hok : drawOk tt ops = true) {st : ASt} (hf : (runL tt T ops ops st).isSome = true) : ∀ (m : Nat) (D : Nat → Bool), missing ops.length D ≤ m → Closed ops D → (runD tt T ops D (List.range ops.length) st).isSome = true := by
  intro m
  induction m with
  | zero =>
    intro D hm hc
    rcases first_missing (n := ops.length) (D := D) with h | ⟨i, h1, h2, h3⟩
    · rw [full h]; exact hf
    · have := missing_lt h1 h2; omega
  | succ m ih =>
    intro D hm hc
    rcases first_missing (n := ops.length) (D := D) with h | ⟨i, h1, h2, h3⟩
    · rw [full h]; exact hf
    · have hlt := missing_lt h1 h2
      have hc' := closed_insert hc (i := i) fun o ho p hp => h3 p ((drawOk_spec hok ho).1 p hp)
      have := ih _ (by omega) hc'
      rw [insert_ok hok hc h1 h2] at this
      cases hr : runD tt T ops D (List.range ops.length) st with
      | none => rw [hr] at this; simp at this
      | some _ => rfl
end

section
variable {P : Program} {tt : TT} {T : Tab} {ops : List Oper} {B : Nat} {w0 : World} {S0 : Nat → Nat → Prop} {Q : Exit → Act → World → Prop}
theorem mem_ready {listed : Array Bool} {i : Nat} : i ∈ Region.ready .any ops.toArray listed ↔ i < ops.length ∧ listed.getD i true = false ∧ ∀ o, ops[i]? = some o → ∀ p ∈ predsOf o, listed.getD p false = true := by
  unfold Region.ready
  simp only [List.mem_filter, List.mem_range, List.size_toArray, Bool.and_eq_true, Bool.not_eq_true', List.getElem?_toArray]
  constructor
  · rintro ⟨h1, h2, h3⟩
    refine ⟨h1, h2, fun o ho p hp => ?_⟩
    rw [ho] at h3
    simp only [Option.map_some, Option.getD_some] at h3
    unfold predsOf at hp
    simp only [List.mem_map, List.mem_filter] at hp
    obtain ⟨e, ⟨he, hb⟩, rfl⟩ := hp
    rw [Array.all_eq_true_iff_forall_mem] at h3
    have := h3 e (by simpa using he)
    simpa [hb] using this
  · rintro ⟨h1, h2, h3⟩
    refine ⟨h1, h2, ?_⟩
    have ho : ops[i]? = some ops[i] := by simp [h1]
    rw [ho]
    simp only [Option.map_some, Option.getD_some]
    rw [Array.all_eq_true_iff_forall_mem]
    intro e he
    cases hb : Region.binds .any e with
    | false => simp
    | true =>
      have := h3 _ ho e.on (List.mem_map.2 ⟨e, List.mem_filter.2 ⟨by simpa using he, hb⟩, rfl⟩)
      simpa using this
theorem any_ok (htt : ∀ t i, tt t = some i → tinfo P t = some i) (hT : ∀ f F, T f = some F → Impl P f F) (hok : drawOk tt ops = true) {st0 stF : ASt} (hfull : runL tt T ops ops st0 = some stF) (hq : ∀ a w, Sim B w0 S0 stF a w → Q .normal a w) :
    ∀ (fuel : Nat) (listed : Array Bool) (a : Act) (w : World), listed.size = ops.length → Closed ops (fun k => listed.getD k false) → missing ops.length (fun k => listed.getD k false) ≤ fuel →
      (∃ st, runD tt T ops (fun k => listed.getD k false) (List.range ops.length) st0 = some st ∧ Sim B w0 S0 st a w) → wpAny P .any ops.toArray Q fuel listed a w := by
  have hdone : ∀ (listed : Array Bool) (a : Act) (w : World), listed.size = ops.length → Closed ops (fun k => listed.getD k false) → Region.ready .any ops.toArray listed = [] →
      (∃ st, runD tt T ops (fun k => listed.getD k false) (List.range ops.length) st0 = some st ∧ Sim B w0 S0 st a w) → Q .normal a w := by
    intro listed a w hsz hc hr hs
    obtain ⟨st, hst, hs⟩ := hs
    rcases first_missing (n := ops.length) (D := fun k => listed.getD k false) with h | ⟨i, h1, h2, h3⟩
    · rw [full h, hfull] at hst
      simp at hst
      subst hst
      exact hq a w hs
    · have : i ∈ Region.ready .any ops.toArray listed := mem_ready.2 ⟨h1, by
        have hlt : i < listed.size := by omega
        simpa [Array.getD, hlt] using h2, fun o ho p hp => h3 p ((drawOk_spec hok ho).1 p hp)⟩
      rw [hr] at this
      simp at this
  intro fuel
  induction fuel with
  | zero =>
    intro listed a w hsz hc hm hs
    have hall : ∀ k, k < ops.length → listed.getD k false = true := by
      rcases first_missing (n := ops.length) (D := fun k => listed.getD k false) with h | ⟨i, h1, h2, h3⟩
      · exact h
      · have := missing_lt (D := fun k => listed.getD k false) h1 h2; omega
    have hr : Region.ready .any ops.toArray listed = [] := by
      apply List.eq_nil_iff_forall_not_mem.2
      intro i hi
      obtain ⟨h1, h2, _⟩ := mem_ready.1 hi
      have := hall i h1
      have hlt : i < listed.size := by omega
      simp [Array.getD, hlt] at this h2
      rw [this] at h2
      simp at h2
    exact ⟨hr, hdone listed a w hsz hc hr hs⟩
  | succ fuel ih =>
    intro listed a w hsz hc hm hs
    refine ⟨fun hr => hdone listed a w hsz hc hr hs, fun i hi => ?_⟩
    obtain ⟨h1, h2, h3⟩ := mem_ready.1 hi
    obtain ⟨st, hst, hs⟩ := hs
    have hlt : i < listed.size := by omega
    have hDi : listed.getD i false = false := by simpa [Array.getD, hlt] using h2
    have hfun : (fun k => (listed.setIfInBounds i true).getD k false) = fun k => listed.getD k false || k == i := by
      funext k
      simp only [Array.getD_eq_getD_getElem?, Array.getElem?_setIfInBounds]
      by_cases hk : i = k
      · subst hk; simp [hlt]
      · have : (k == i) = false := by simpa using fun e => hk e.symm
        simp [hk, this]
    have hc' : Closed ops (fun k => (listed.setIfInBounds i true).getD k false) := by
      rw [hfun]
      exact closed_insert hc h3
    have hins := insert_ok (tt := tt) (T := T) hok hc h1 hDi (st := st0)
    have hsome := some_of_full (tt := tt) (T := T) hok (st := st0) (by rw [hfull]; rfl) _ _ (Nat.le_refl _) hc'
    rw [hfun, hins, hst] at hsome
    simp only [Option.bind_some] at hsome
    have ho : ops[i]? = some ops[i] := by simp [h1]
    unfold stepI at hsome hins
    rw [ho] at hsome hins
    simp only at hsome hins
    cases hr1 : run1 tt T ops ops[i] st with
    | none => rw [hr1] at hsome; simp at hsome
    | some st1 =>
      have h1' := run1_ok (Q := Q) htt hT hs hr1
      unfold wpOp
      simp only [List.getElem?_toArray, ho]
      have hnext : ∀ a' w', Sim B w0 S0 st1 a' w' → wpAny P .any ops.toArray Q fuel (listed.setIfInBounds i true) a' w' := by
        intro a' w' hs'
        refine ih _ a' w' (by simpa using hsz) hc' ?_ ⟨st1, ?_, hs'⟩
        · rw [hfun]
          have := missing_lt (D := fun k => listed.getD k false) h1 hDi
          omega
        · rw [hfun, hins, hst]
          exact hr1
      split
      · rename_i hw
        rw [if_pos hw] at h1'
        exact .inl (Oper.wp_mono hnext h1')
      · rename_i hw
        rw [if_neg hw] at h1'
        exact hnext _ _ h1'
end
end Go.Ab
end
section
namespace Go.Ab
open Go.RowKit
set_option linter.unusedVariables false
theorem Okay.len {ps : List PV} {i : Nat} {o : Own} {els : List (List Cell)} (h : ∃ S w vs, All2 (RepB S w fun _ => none) ps vs) (hi : ps[i]? = some (.one (.slice o els))) : els.length ≤ maxLen := by
  obtain ⟨S, w, vs, h⟩ := h
  obtain ⟨v, _, hv⟩ := h.get hi
  cases hv with
  | one hv => obtain ⟨_, c, _, h1, h2⟩ := hv.len; omega
theorem Okay.lenA {ps : List PV} {i j : Nat} {o : Own} {cs : List Cell} {els : List (List Cell)} (h : ∃ S w vs, All2 (RepB S w fun _ => none) ps vs) (hi : ps[i]? = some (.agg cs)) (hj : cs[j]? = some (.slice o els)) : els.length ≤ maxLen := by
  obtain ⟨S, w, vs, h⟩ := h
  obtain ⟨v, _, hv⟩ := h.get hi
  cases hv with
  | agg hv =>
    obtain ⟨u, _, hu⟩ := All2.get hv hj
    obtain ⟨_, c, _, h1, h2⟩ := hu.len
    omega
section
variable {P : Program} {tt : TT} {T : Tab} {kp : Keep} {n : Nat} {B : Nat} {w0 : World} {S0 S S' : Nat → Nat → Prop} {g g' : Nat → Option Occ} {bm bm' : Nat → Option Nat} {st st' : ASt} {a : Act} {w w' : World} {Q : Exit → Act → World → Prop}

theorem Sim.drew (h : Sim B w0 S0 st a w) : Sim B w0 S0 st a w.drew := by
  obtain ⟨S, g, bm, h⟩ := h
  exact ⟨S, g, bm, h.grow (Grow.refl h.slt).drew⟩
theorem list_false {c : Bool} (h : (!c || false) = true) : c = false := by simpa using h

theorem exec_ok (hm : P.follows .mixedOrders = true) (htt : ∀ t i, tt t = some i → tinfo P t = some i) (hT : ∀ f F, T f = some F → Impl P f F) :
    ∀ (c : Code) (st : ASt) (a : Act) (w : World) (r : AE × ASt), codeOk tt c = true → exec tt T kp n c st = some r → Sim B w0 S0 st a w → c.wp P (Post B w0 S0 r) a w := by
  intro c
  induction c with
  | skip => intro st a w r _ h hs; simp [exec] at h; subst h; exact wp_skip ⟨rfl, hs⟩
  | region id ops draw =>
    intro st a w r hok h hs
    simp only [exec] at h
    split at h <;> simp at h
    rename_i st' hr
    subst h
    cases draw with
    | false =>
      have := runL_ok (Q := Post B w0 S0 (.normal, st')) htt hT hs hr (fun a w hs => ⟨rfl, hs⟩)
      rw [Array.toArray_toList] at this
      exact wp_region_list this
    | true =>
      have hd : drawOk tt ops.toList = true := by simpa [codeOk] using hok
      refine wp_region_any hm ?_
      have := any_ok (Q := Post B w0 S0 (.normal, st')) htt hT hd hr (fun a w hs => ⟨rfl, hs⟩) ops.size (Array.replicate ops.size false) a w.drew (by simp) ?_ ?_ ⟨st, ?_, hs.drew⟩
      · rw [Array.toArray_toList] at this
        exact this
      · intro j o hj
        simp [Array.getD_eq_getD_getElem?, Array.getElem?_replicate] at hj
        split at hj <;> simp at hj
      · unfold missing
        exact Nat.le_trans List.countP_le_length (by simp)
      · have hno : (fun k => (Array.replicate ops.size false).getD k false) = fun _ => false := by
          funext k
          simp [Array.getD_eq_getD_getElem?, Array.getElem?_replicate]
          split <;> rfl
        rw [hno]
        generalize List.range ops.toList.length = l
        induction l with
        | nil => rfl
        | cons i l ih => simpa [runD] using ih
  | seq x y ihx ihy =>
    intro st a w r hok h hs
    simp only [codeOk, Bool.and_eq_true] at hok
    simp only [exec] at h
    cases hx : exec tt T kp n x st with
    | none => simp [hx] at h
    | some r1 =>
      obtain ⟨ae, st1⟩ := r1
      refine wp_seq (Code.wp_mono (fun e a' w' hp => ?_) (ihx st a w _ hok.1 hx hs))
      obtain ⟨he, hs1⟩ := hp
      rw [hx] at h
      cases ae with
      | normal => simp only [AE.to] at he; subst he; exact ihy st1 a' w' r hok.2 h hs1
      | exit id => simp at h; subst h; simp only [AE.to] at he; subst he; exact ⟨rfl, hs1⟩
      | ret => simp at h; subst h; simp only [AE.to] at he; subst he; exact ⟨rfl, hs1⟩
  | cond x y z ihy ihz =>
    intro st a w r hok h hs
    simp only [codeOk, Bool.and_eq_true] at hok
    simp only [exec] at h
    split at h
    · rename_i t hx
      have he : a.eval x = .bool t := by
        obtain ⟨S, g, bm, hs⟩ := hs
        exact hs.evalV hx
      refine wp_cond he ?_
      cases t with
      | true => exact ihy st a w r hok.1 (by simpa using h) hs
      | false => exact ihz st a w r hok.2 (by simpa using h) hs
    · simp at h
  | block id c ih =>
    intro st a w r hok h hs
    simp only [codeOk] at hok
    simp only [exec] at h
    cases hx : exec tt T kp n c st with
    | none => simp [hx] at h
    | some r1 =>
      obtain ⟨ae, st1⟩ := r1
      refine wp_block (Code.wp_mono (fun e a' w' hp => ?_) (ih st a w _ hok hx hs))
      obtain ⟨he, hs1⟩ := hp
      rw [hx] at h
      cases ae with
      | normal => simp at h; subst h; simp only [AE.to] at he; subst he; exact ⟨rfl, hs1⟩
      | exit id' =>
        simp only [AE.to] at he
        subst he
        simp only [Exit.inBlock]
        simp only at h
        split
        · rename_i hid
          rw [if_pos hid] at h
          simp at h
          subst h
          exact ⟨rfl, hs1⟩
        · rename_i hid
          rw [if_neg hid] at h
          simp at h
          subst h
          exact ⟨rfl, hs1⟩
      | ret => simp at h; subst h; simp only [AE.to] at he; subst he; exact ⟨rfl, hs1⟩
  | loop c ih =>
    intro st a w r hok h hs
    simp only [codeOk] at hok
    simp only [exec] at h
    exact wp_loop_rounds n (iter_ok htt (fun st a w r hf hs => ih st a w r hok hf hs) n st a w h hs)
  | exit id => intro st a w r _ h hs; simp [exec] at h; subst h; exact wp_exit ⟨rfl, hs⟩
  | ret => intro st a w r _ h hs; simp [exec] at h; subst h; exact wp_ret ⟨rfl, hs⟩
  | rangeFunc => intro st a w r _ h hs; simp [exec] at h
  | scope => intro st a w r _ h hs; simp [exec] at h
  | label => intro st a w r _ h hs; simp [exec] at h
  | goto => intro st a w r _ h hs; simp [exec] at h
  | refuse => intro st a w r _ h hs; simp [exec] at h

def resV (tmps : Array Value) : ResultVar → Sem Value
  | .tmp t => pure (tmps.getD t undef)
  | .cell a t => do loadVar t (← asAddr (tmps.getD a undef))
theorem results_eq (fn : Func) (tmps : Array Value) : results fn tmps = (fn.results.mapM (resV tmps) >>= fun vs => pure (if h : vs.size = 1 then vs[0] else .tuple vs)) := by
  unfold results
  congr 1
theorem loadRes_ok (htt : ∀ t i, tt t = some i → tinfo P t = some i) (h : SimX B w0 S0 S g bm st a w) {x : ResultVar} {p : PV} (hp : loadRes tt st x = some p) :
    ∃ v, (resV a.tmps x).run P w = .ok v w ∧ RepV S w bm p v := by
  cases x with
  | tmp t =>
    simp [loadRes] at hp
    subst hp
    exact ⟨_, rfl, (h.slot t).un⟩
  | cell b t =>
    simp only [loadRes] at hp
    split at hp
    · rename_i i id off hi hx
      split at hp
      · rename_i bx hb
        split at hp <;> simp at hp
        rename_i q hq
        subst hp
        have hs := h.slot b
        rw [hx] at hs
        have hV := hs.V trivial
        simp only [resV]
        generalize a.tmps.getD b undef = v at hV ⊢
        cases hV with
        | base hV => cases hV with
          | ptr _ _ k hk =>
            obtain ⟨k', hk', hB⟩ := h.boxes id bx hb
            obtain rfl : k = k' := by rw [hk] at hk'; simpa using hk'
            obtain ⟨arr, T', h1, h2, h3⟩ := hB.blk
            have hlies : Lies w k 0 arr.toList := fun j u hu => by
              rw [Nat.zero_add]
              simp [World.cell?, h1]
              simpa using hu
            have hrep : RepL S w (unCells bx.cells) arr.toList := All2.un_of (by simpa using h2) (fun o c v hc hv => h3 o c v hc (by simpa using hv))
            obtain ⟨v, hv, hr⟩ := run_loadVar_part (P := P) (bm := bm) (tinfo_spec (htt _ _ hi)) hrep hlies (partC_un hq)
            rw [Nat.zero_add] at hv
            exact ⟨v, by simpa [asAddr] using hv, .base hr⟩
      · simp at hp
    · simp at hp
theorem loadAll_ok (htt : ∀ t i, tt t = some i → tinfo P t = some i) (h : SimX B w0 S0 S g bm st a w) : ∀ {l : List ResultVar} {ps : List PV}, loadAll tt st l = some ps →
    ∃ vs : List Value, (l.mapM (resV a.tmps)).run P w = .ok vs w ∧ All2 (RepV S w bm) ps vs
  | [], ps, hp => by simp [loadAll] at hp; subst hp; exact ⟨[], rfl, .nil⟩
  | x :: l, ps, hp => by
    simp only [loadAll] at hp
    split at hp
    · rename_i p ps' h1 h2
      simp at hp
      subst hp
      obtain ⟨v, hv, hr⟩ := loadRes_ok htt h h1
      obtain ⟨vs, hvs, hrs⟩ := loadAll_ok htt h h2
      refine ⟨v :: vs, ?_, .cons hr hrs⟩
      rw [List.mapM_cons, Sem.run_bind, hv]
      simp only [Result.andThen_ok, Sem.run_bind, hvs, Sem.run_pure]
    · simp at hp

/-- arguments that stand for something -/
def Okay (ps : List PV) : Prop := ∃ S w vs, All2 (RepB S w fun _ => none) ps vs
theorem impl_of (hm : P.follows .mixedOrders = true) (htt : ∀ t i, tt t = some i → tinfo P t = some i) (hT : ∀ f F, T f = some F → Impl P f F) {f : FuncId} {fn : Func} {c : Code}
    (hf : P.funcs[f]? = some fn) (hb : fn.body = some c) (hname : (fn.name == "runtime.NumGoroutine") = false) (hok : codeOk tt c = true) {F : List PV → Option PV}
    (hF : ∀ ps r, Okay ps → F ps = some r → ∃ kp n, execFn tt T kp n fn ps = some r) : Impl P f F := by
  refine ⟨⟨fn, hf, by rw [hb]; rfl, hname⟩, fun S w ps vs r hl hd hr hFr => ?_⟩
  obtain ⟨kp, n, hx⟩ := hF ps r ⟨S, w, vs, hr⟩ hFr
  unfold execFn at hx
  rw [hb] at hx
  simp only at hx
  refine calls_of_wp hf hb ?_
  have hsim : Sim w.heap.size w S ⟨ps ++ List.replicate (fn.ntmps - ps.length) .skip, []⟩ { tmps := vs.toArray ++ Array.replicate (fn.ntmps - vs.toArray.size) undef, defers := [] } w := by
    have hlen := hr.length
    refine ⟨S, fun _ => none, fun _ => none, rfl, by simp [hlen], fun i p v hp hv => ?_, fun id b hb => by simp at hb, fun id k hk => by simp at hk, Below.refl _ _, Nat.le_refl _, fun _ _ h => h, fun _ _ h => .inl h, hl⟩
    simp only [List.getElem?_append] at hp
    simp only [Array.getElem?_append, List.size_toArray, List.getElem?_toArray] at hv
    refine RepS.of_V (.base ?_)
    by_cases hi : i < ps.length
    · rw [if_pos hi] at hp
      rw [if_pos (by omega)] at hv
      obtain ⟨v', hv', hrv⟩ := hr.get hp
      have : v' = v := by rw [hv] at hv'; simpa using hv'.symm
      subst this
      exact hrv
    · rw [if_neg hi] at hp
      rw [if_neg (by omega)] at hv
      simp [List.getElem?_replicate] at hp
      simp [Array.getElem?_replicate] at hv
      obtain ⟨_, rfl⟩ := hp
      obtain ⟨_, rfl⟩ := hv
      exact .skip
  cases he : exec tt T kp n c ⟨ps ++ List.replicate (fn.ntmps - ps.length) .skip, []⟩ with
  | none => simp [he] at hx
  | some rr =>
    obtain ⟨ae, stF⟩ := rr
    refine Code.wp_mono (fun e a' w' hp => ?_) (exec_ok hm htt hT c _ _ _ _ hok he hsim)
    obtain ⟨hee, S', g, bm, hs⟩ := hp
    have hfin : ∀ {q}, (match loadAll tt stF fn.results.toList with | some [p] => if isData p then some p.nn else none | some ps => if ps.all isData then some (PV.nn (.tup ps)) else none | none => none) = some q →
        a'.defers = [] ∧ ∃ v, (results fn a'.tmps).run P w' = .ok v w' ∧ ∃ v' S'', Ending.returned v = .returned v' ∧ RepV S'' w' (fun _ => none) q v' ∧ Grow S S'' w w' := by
      intro q hq
      refine ⟨hs.dfr, ?_⟩
      have hgrow : Grow S S' w w' := ⟨hs.below, hs.mono, hs.fresh, hs.slt⟩
      cases hla : loadAll tt stF fn.results.toList with
      | none => simp [hla] at hq
      | some qs =>
        obtain ⟨us, hus, hrs⟩ := loadAll_ok (P := P) htt hs hla
        have hres : (results fn a'.tmps).run P w' = .ok (if h : us.toArray.size = 1 then us.toArray[0] else .tuple us.toArray) w' := by
          rw [results_eq, Sem.run_bind, Array.mapM_eq_mapM_toList]
          simp only [Sem.run_map]
          rw [hus]
          simp
        refine ⟨_, hres, _, S', rfl, ?_, hgrow⟩
        rw [hla] at hq
        cases hrs with
        | nil =>
          simp at hq
          subst hq
          exact .tup .nil
        | cons h1 h2 =>
          rename_i p v ps' vs'
          cases h2 with
          | nil =>
            simp at hq
            obtain ⟨hd1, rfl⟩ := hq
            simp
            refine RepV.nn ?_
            cases h1 with
            | base h1 => exact .base (h1.data hd1)
            | tup h1 => simp [isData] at hd1
          | cons h3 h4 =>
            simp at hq
            obtain ⟨hd1, rfl⟩ := hq
            simp
            exact RepV.nn (.tup (datas (.cons h1 (.cons h3 h4)) (by simpa using hd1)))
    rw [he] at hx
    cases ae with
    | normal => simp only [AE.to] at hee; subst hee; exact hfin hx
    | ret => simp only [AE.to] at hee; subst hee; exact hfin hx
    | exit id => simp at hx
end
end Go.Ab
end
section
namespace Go.Ab
open Go.RowKit
set_option linter.unusedVariables false

def regOf (id : Nat) : Code → Option Code
  | .region i ops d => if i == id then some (.region i ops d) else none
  | .seq a b => (match regOf id a with | some c => some c | none => regOf id b)
  | .cond _ a b => (match regOf id a with | some c => some c | none => regOf id b)
  | .block _ c => regOf id c
  | .loop c => regOf id c
  | _ => none
/-- the region of that number in a function's code -/
def reg (fn : Func) (id : Nat) : Code := match fn.body with | some c => (match regOf id c with | some r => r | none => .skip) | none => .skip

section
variable {tt : TT} {T : Tab} {kp : Keep} {n : Nat} {st st1 : ASt} {a b c : Code} {r : Option (AE × ASt)}
theorem ex_region {id : Nat} {ops : Array Oper} {dr : Bool} (hc : c = .region id ops dr) (h : runL tt T ops.toList ops.toList st = some st1) : exec tt T kp n c st = some (.normal, st1) := by
  subst hc; simp [exec, h]
theorem ex_seq (h1 : exec tt T kp n a st = some (.normal, st1)) (h2 : exec tt T kp n b st1 = r) : exec tt T kp n (.seq a b) st = r := by
  simp [exec, h1, h2]
theorem ex_seq_reg {id : Nat} {ops : Array Oper} {dr : Bool} (hc : c = .region id ops dr) (h : runL tt T ops.toList ops.toList st = some st1) (h2 : exec tt T kp n b st1 = r) : exec tt T kp n (.seq c b) st = r :=
  ex_seq (ex_region hc h) h2
theorem ex_seq_skip (h2 : exec tt T kp n b st = r) : exec tt T kp n (.seq .skip b) st = r := ex_seq rfl h2
theorem ex_seq_ret : exec tt T kp n (.seq .ret b) st = some (.ret, st) := rfl
theorem ex_seq_out {e : AE} (h1 : exec tt T kp n a st = some (e, st1)) (he : e ≠ .normal) : exec tt T kp n (.seq a b) st = some (e, st1) := by
  cases e with
  | normal => exact absurd rfl he
  | exit id => simp [exec, h1]
  | ret => simp [exec, h1]
theorem ex_true {x : Operand} (h : rd st.get x = some (.one (.v (.bool true)))) (h2 : exec tt T kp n a st = r) : exec tt T kp n (.cond x a b) st = r := by
  simp [exec, h, h2]
theorem ex_false {x : Operand} (h : rd st.get x = some (.one (.v (.bool false)))) (h2 : exec tt T kp n b st = r) : exec tt T kp n (.cond x a b) st = r := by
  simp [exec, h, h2]
/-- seq is associative: a walk goes on at the head -/
theorem ex_assoc {d : Code} (h : exec tt T kp n (.seq a (.seq b d)) st = r) : exec tt T kp n (.seq (.seq a b) d) st = r := by
  rw [← h]
  simp only [exec]
  cases exec tt T kp n a st with
  | none => rfl
  | some x => obtain ⟨e, s⟩ := x; cases e <;> rfl
theorem ex_seq_true {x : Operand} {d : Code} (h : rd st.get x = some (.one (.v (.bool true)))) (h2 : exec tt T kp n (.seq a d) st = r) : exec tt T kp n (.seq (.cond x a b) d) st = r := by
  rw [← h2]; simp [exec, h]
theorem ex_seq_false {x : Operand} {d : Code} (h : rd st.get x = some (.one (.v (.bool false)))) (h2 : exec tt T kp n (.seq b d) st = r) : exec tt T kp n (.seq (.cond x a b) d) st = r := by
  rw [← h2]; simp [exec, h]
theorem ex_block {id : Nat} {e : AE} (h : exec tt T kp n c st = some (e, st1)) (he : e = .exit id ∨ e = .normal) : exec tt T kp n (.block id c) st = some (.normal, st1) := by
  rcases he with rfl | rfl <;> simp [exec, h]
theorem ex_block_out {id : Nat} {e : AE} (h : exec tt T kp n c st = some (e, st1)) (he : e = .ret) : exec tt T kp n (.block id c) st = some (e, st1) := by
  subst he; simp [exec, h]
theorem ex_loop (h : iter (kp (firstId c)) (exec tt T kp n c) n st = r) : exec tt T kp n (.loop c) st = r := by
  rw [← h]; rfl
theorem it_next {kq : List Nat × Nat} {f : ASt → Option (AE × ASt)} {m : Nat} {s : ASt} (hs : forget kq.1 kq.2 st = s) (h : f s = some (.normal, st1)) (h2 : iter kq f m st1 = r) : iter kq f (m + 1) st = r := by
  subst hs; simp [iter, h, h2]
theorem it_end {kq : List Nat × Nat} {f : ASt → Option (AE × ASt)} {m : Nat} {s : ASt} {e : AE} (hs : forget kq.1 kq.2 st = s) (h : f s = some (e, st1)) (he : e ≠ .normal) : iter kq f (m + 1) st = some (e, st1) := by
  subst hs
  cases e with
  | normal => exact absurd rfl he
  | exit id => simp [iter, h]
  | ret => simp [iter, h]
theorem fn_of {fn : Func} {args : List PV} {p : PV} {e : AE} (hb : fn.body = some c) (h : exec tt T kp n c ⟨args ++ List.replicate (fn.ntmps - args.length) .skip, []⟩ = some (e, st1)) (he : e = .ret ∨ e = .normal)
    (hp : (match loadAll tt st1 fn.results.toList with | some [p] => if isData p then some p.nn else none | some ps => if ps.all isData then some (PV.nn (.tup ps)) else none | none => none) = some p) : execFn tt T kp n fn args = some p := by
  unfold execFn
  rw [hb]
  simp only [h]
  rcases he with rfl | rfl <;> exact hp
end
end Go.Ab
end
section
namespace Go.Ab
open Go.RowKit
set_option linter.unusedVariables false

section
variable {tt : TT} {T : Tab} {kp : Keep} {n : Nat} {st st1 : ASt} {a b c d : Code} {Q Q' : AE → ASt → Prop}
def EndA (tt : TT) (T : Tab) (kp : Keep) (n : Nat) (c : Code) (st : ASt) (Q : AE → ASt → Prop) : Prop := ∃ e s, exec tt T kp n c st = some (e, s) ∧ Q e s
def Iters (kq : List Nat × Nat) (f : ASt → Option (AE × ASt)) (m : Nat) (st : ASt) (Q : AE → ASt → Prop) : Prop := ∃ e s, iter kq f m st = some (e, s) ∧ Q e s
/-- what a block makes of an exit -/
def outOf (id : Nat) (Q : AE → ASt → Prop) : AE → ASt → Prop
  | .exit id', s => if id' = id then Q .normal s else Q (.exit id') s
  | e, s => Q e s
def thenQ (K : ASt → Prop) (Q : AE → ASt → Prop) : AE → ASt → Prop
  | .normal, s => K s
  | e, s => Q e s

theorem EndA.mono (h : EndA tt T kp n c st Q) (hq : ∀ e s, Q e s → Q' e s) : EndA tt T kp n c st Q' := let ⟨e, s, h1, h2⟩ := h; ⟨e, s, h1, hq _ _ h2⟩
theorem en_seq (h : EndA tt T kp n a st (thenQ (fun s => EndA tt T kp n b s Q) Q)) : EndA tt T kp n (.seq a b) st Q := by
  obtain ⟨e, s, h1, h2⟩ := h
  cases e with
  | normal => obtain ⟨e', s', h3, h4⟩ := h2; exact ⟨e', s', by simp [exec, h1, h3], h4⟩
  | exit id => exact ⟨_, _, by simp [exec, h1], h2⟩
  | ret => exact ⟨_, _, by simp [exec, h1], h2⟩
theorem en_reg {id : Nat} {ops : Array Oper} {dr : Bool} (hc : c = .region id ops dr) (h : runL tt T ops.toList ops.toList st = some st1) (hq : Q .normal st1) : EndA tt T kp n c st Q := ⟨_, _, ex_region hc h, hq⟩
theorem en_seq_reg {id : Nat} {ops : Array Oper} {dr : Bool} (hc : c = .region id ops dr) (h : runL tt T ops.toList ops.toList st = some st1) (hq : EndA tt T kp n b st1 Q) : EndA tt T kp n (.seq c b) st Q := en_seq (en_reg hc h hq)
theorem en_skip (h : Q .normal st) : EndA tt T kp n .skip st Q := ⟨_, _, rfl, h⟩
theorem en_ret (h : Q .ret st) : EndA tt T kp n .ret st Q := ⟨_, _, rfl, h⟩
theorem en_exit {id : Nat} (h : Q (.exit id) st) : EndA tt T kp n (.exit id) st Q := ⟨_, _, rfl, h⟩
theorem en_seq_skip (h : EndA tt T kp n b st Q) : EndA tt T kp n (.seq .skip b) st Q := en_seq (en_skip h)
theorem en_seq_ret (h : Q .ret st) : EndA tt T kp n (.seq .ret b) st Q := en_seq (en_ret h)
theorem en_seq_exit {id : Nat} (h : Q (.exit id) st) : EndA tt T kp n (.seq (.exit id) b) st Q := en_seq (en_exit h)
theorem en_assoc (h : EndA tt T kp n (.seq a (.seq b d)) st Q) : EndA tt T kp n (.seq (.seq a b) d) st Q := by
  obtain ⟨e, s, h1, h2⟩ := h
  exact ⟨e, s, ex_assoc h1, h2⟩
def bV (t : Bool) : PV := .one (.v (.bool t))
theorem en_cond {x : Operand} {t : Bool} (h : rd st.get x = some (bV t)) (h1 : t = true → EndA tt T kp n a st Q) (h2 : t = false → EndA tt T kp n b st Q) : EndA tt T kp n (.cond x a b) st Q := by
  cases t with
  | true => obtain ⟨e, s, h3, h4⟩ := h1 rfl; exact ⟨e, s, ex_true h h3, h4⟩
  | false => obtain ⟨e, s, h3, h4⟩ := h2 rfl; exact ⟨e, s, ex_false h h3, h4⟩
theorem en_seq_cond {x : Operand} {t : Bool} (h : rd st.get x = some (bV t)) (h1 : t = true → EndA tt T kp n (.seq a d) st Q) (h2 : t = false → EndA tt T kp n (.seq b d) st Q) : EndA tt T kp n (.seq (.cond x a b) d) st Q := by
  cases t with
  | true => obtain ⟨e, s, h3, h4⟩ := h1 rfl; exact ⟨e, s, ex_seq_true h h3, h4⟩
  | false => obtain ⟨e, s, h3, h4⟩ := h2 rfl; exact ⟨e, s, ex_seq_false h h3, h4⟩
theorem en_block {id : Nat} (h : EndA tt T kp n c st (outOf id Q)) : EndA tt T kp n (.block id c) st Q := by
  obtain ⟨e, s, h1, h2⟩ := h
  cases e with
  | normal => exact ⟨.normal, s, by simp [exec, h1], h2⟩
  | ret => exact ⟨.ret, s, by simp [exec, h1], h2⟩
  | exit id' =>
    simp only [outOf] at h2
    split at h2
    · rename_i hid; exact ⟨.normal, s, by simp [exec, h1, hid], h2⟩
    · rename_i hid; exact ⟨.exit id', s, by simp [exec, h1, hid], h2⟩
theorem en_seq_block {id : Nat} (h : EndA tt T kp n c st (outOf id (thenQ (fun s => EndA tt T kp n d s Q) Q))) : EndA tt T kp n (.seq (.block id c) d) st Q := en_seq (en_block h)
theorem en_loop {kq : List Nat × Nat} (hk : kp (firstId c) = kq) (h : Iters kq (exec tt T kp n c) n st Q) : EndA tt T kp n (.loop c) st Q := by
  subst hk; exact let ⟨e, s, h1, h2⟩ := h; ⟨e, s, ex_loop h1, h2⟩

/-- a loop whose head is H x, with I x, and a measure -/
theorem it_inv {α : Type} {kq : List Nat × Nat} (H : α → ASt) (I : α → Prop) (μ : α → Nat)
    (hbody : ∀ x, I x → EndA tt T kp n c (H x) (thenQ (fun s => ∃ y, I y ∧ forget kq.1 kq.2 s = H y ∧ μ y < μ x) Q)) :
    ∀ (m : Nat) (x : α) (st : ASt), I x → μ x < m → forget kq.1 kq.2 st = H x → Iters kq (exec tt T kp n c) m st Q := by
  intro m
  induction m with
  | zero => intro x st _ hm; omega
  | succ m ih =>
    intro x st hI hm hs
    obtain ⟨e, s, h1, h2⟩ := hbody x hI
    cases e with
    | normal =>
      obtain ⟨y, hy, hf, hlt⟩ := h2
      obtain ⟨e', s', h3, h4⟩ := ih y s hy (by omega) hf
      exact ⟨e', s', it_next hs h1 h3, h4⟩
    | exit id => exact ⟨_, _, it_end hs h1 (by simp), h2⟩
    | ret => exact ⟨_, _, it_end hs h1 (by simp), h2⟩

def resOf (tt : TT) (fn : Func) (st : ASt) : Option PV :=
  match loadAll tt st fn.results.toList with
  | some [p] => if isData p then some p.nn else none
  | some ps => if ps.all isData then some (PV.nn (.tup ps)) else none
  | none => none
def FinQ (tt : TT) (fn : Func) (p : PV) : AE → ASt → Prop
  | .ret, s => resOf tt fn s = some p
  | .normal, s => resOf tt fn s = some p
  | _, _ => False
theorem fn_ends {fn : Func} {args : List PV} {p : PV} (hb : fn.body = some c) (h : EndA tt T kp n c ⟨args ++ List.replicate (fn.ntmps - args.length) .skip, []⟩ (FinQ tt fn p)) : execFn tt T kp n fn args = some p := by
  obtain ⟨e, s, h1, h2⟩ := h
  cases e with
  | normal => exact fn_of hb h1 (.inr rfl) h2
  | ret => exact fn_of hb h1 (.inl rfl) h2
  | exit id => exact h2.elim
end
end Go.Ab
end
