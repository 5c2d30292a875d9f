import Derived.WalkKit
import Derived.Orders
import Derived.ChangeKeysEq
section
namespace Go.Ab
open Go.RowKit
set_option linter.unusedVariables false

/-- who may append behind a slice: nil (no room: everyone), no (nobody), tip e (the holder: the cells behind it are free) -/
inductive Own where
  | nil
  | no
  | tip (e : Nat)

inductive Cell where
  | v (x : Value)
  | slice (o : Own) (els : List (List Cell))

inductive PV where
  | undef
  | skip
  | one (c : Cell)
  | agg (cs : List Cell)
  | tup (ps : List PV)
  | ref (cs : List Cell)
  | ptr (id off : Nat)
  | mref (id off n e : Nat)

/-- a variable in memory: its cells; frz: it is never written again -/
structure Box where
  cells : List Cell
  frz : Bool

def Cell.un : Cell → Cell
  | .slice (.tip _) els => .slice .no els
  | c => c
def PV.un : PV → PV
  | .one c => .one c.un
  | p => p
/-- no word of permission: for the border of a function -/
def Cell.nn : Cell → Cell
  | .slice _ els => .slice .no els
  | c => c
def PV.nnB : PV → PV
  | .one c => .one c.nn
  | .agg cs => .agg (cs.map Cell.nn)
  | p => p
def PV.nn : PV → PV
  | .tup ps => .tup (ps.map PV.nnB)
  | p => p.nnB
def PV.cells : PV → Option (List Cell)
  | .one c => some [c]
  | .agg cs => some cs
  | _ => none

inductive Zc where
  | int (k : IntKind)
  | bool
  | str
  | nil
deriving DecidableEq, Repr
def Zc.cell : Zc → Cell
  | .int k => .v (.int k 0)
  | .bool => .v (.bool false)
  | .str => .v (.string ⟨#[]⟩)
  | .nil => .slice .nil []
def Zc.val : Zc → Value
  | .int k => .int k 0
  | .bool => .bool false
  | .str => .string ⟨#[]⟩
  | .nil => .slice none 0 0
def Zc.of : Value → Option Zc
  | .int k n => if n = 0 then some (.int k) else none
  | .bool b => if b then none else some .bool
  | .string s => if s.data = #[] then some .str else none
  | .slice none n c => if n = 0 ∧ c = 0 then some .nil else none
  | _ => none
theorem Zc.of_val {v : Value} {z : Zc} (h : Zc.of v = some z) : v = z.val := by
  cases v <;> simp only [Zc.of] at h
  case int k n => split at h <;> simp at h; subst h; simp [Zc.val, *]
  case bool b => cases b <;> simp at h; subst h; rfl
  case string s => split at h <;> simp at h; subst h; cases s; simp_all [Zc.val]
  case slice a n c => cases a <;> simp at h; obtain ⟨⟨rfl, rfl⟩, rfl⟩ := h; rfl
  all_goals simp at h

inductive TK where
  | slice (e : TypeId)
  | struct (fs : List (Nat × TypeId))
  | array (n : Nat) (e : TypeId)
  | int (k : IntKind)
  | bool
  | str
  | other
deriving DecidableEq, Repr
structure TI where
  size : Nat
  kind : TK
  zero : List Zc
  bytes : Nat
  flat : Bool
deriving DecidableEq, Repr
def TI.agg (i : TI) : Bool := match i.kind with | .struct _ | .array .. => true | _ => false
def tkind : TypeDesc → TK
  | .slice e => .slice e
  | .struct fs => .struct (fs.toList.map fun f => (f.offset, f.type))
  | .array n e => .array n e
  | .int k => .int k
  | .bool => .bool
  | .string => .str
  | _ => .other
def flatFs (f : TypeId → Bool) (P : Program) : List Field → Nat → Nat → Bool
  | [], off, n => off == n
  | d :: fs, off, n => d.name != "_" && d.offset == off && f d.type && flatFs f P fs (off + P.cellsOf d.type) n
/-- only numbers, one behind the other -/
def flatTy (P : Program) : Nat → TypeId → Bool
  | 0, _ => false
  | d + 1, t =>
    match P.underlying t with
    | some (.int _) => P.cellsOf t == 1
    | some (.array n e) => flatTy P d e && P.cellsOf t == n * P.cellsOf e
    | some (.struct fs) => !P.stoodInHeld t && flatFs (flatTy P d) P fs.toList 0 (P.cellsOf t)
    | _ => false
def zcs : List Value → Option (List Zc)
  | [] => some []
  | v :: vs => match Zc.of v, zcs vs with | some z, some zs => some (z :: zs) | _, _ => none
def tinfo (P : Program) (t : TypeId) : Option TI :=
  match P.info? t, P.underlying t with
  | some i, some d =>
    match i.zero with
    | some z => match zcs z.cells.toList with
      | some zs => some ⟨i.size, tkind d, zs, i.bytes, flatTy P 20 t && !P.eqGuardType P.depth t⟩
      | none => none
    | none => none
  | _, _ => none

/-- a constant as a cell -/
def ofCell : Value → Option Cell
  | .int k n => some (.v (.int k n))
  | .bool b => some (.v (.bool b))
  | .string s => some (.v (.string s))
  | .slice none 0 0 => some (.slice .nil [])
  | _ => none
def ofCells : List Value → Option (List Cell)
  | [] => some []
  | v :: vs => match ofCell v, ofCells vs with | some c, some cs => some (c :: cs) | _, _ => none
def ofConst : Value → Option PV
  | .agg cs => (ofCells cs.toList).map .agg
  | v => (ofCell v).map .one

abbrev Env := Nat → PV
def rdT (env : Env) : Operand → Option PV
  | .tmp t => some (env t)
  | .const v => ofConst v
  | _ => none
def rd (env : Env) (x : Operand) : Option PV := (rdT env x).map PV.un
def rds (env : Env) : List Operand → Option (List PV)
  | [] => some []
  | x :: xs => match rd env x, rds env xs with | some p, some ps => some (p :: ps) | _, _ => none

structure ASt where
  env : List PV
  boxes : List Box
def ASt.get (st : ASt) : Env := fun t => st.env.getD t .undef

abbrev Tab := FuncId → Option (List PV → Option PV)
abbrev TT := TypeId → Option TI

/-- a part of a row of cells, as a value -/
def partC (i : TI) (cs : List Cell) (off : Nat) : Option PV :=
  if i.agg then (if off + i.size ≤ cs.length then some (.agg ((cs.drop off).take i.size)) else none)
  else match cs[off]? with | some c => some (.one c) | none => none
def putCells (cs : List Cell) (off : Nat) (ds : List Cell) : List Cell := cs.take off ++ ds ++ cs.drop (off + ds.length)

def fillC (place : Nat → Option (Nat × Nat)) (cells : List Cell) : List (Nat × PV) → Option (List Cell)
  | [] => some cells
  | (i, p) :: rest =>
    match place i, p.cells with
    | some (off, size), some ds => if ds.length = size ∧ off + size ≤ cells.length then fillC place (putCells cells off ds) rest else none
    | _, _ => none
def rdParts (env : Env) : List (Nat × Operand) → Option (List (Nat × PV))
  | [] => some []
  | (i, x) :: xs => match rd env x, rdParts env xs with | some p, some ps => some ((i, p) :: ps) | _, _ => none

def pureOf : Sem Value → Option Value
  | .pure v => some v
  | _ => none
def intBin (op : BinOp) (k : IntKind) (a b : Int) : Option Value :=
  match op with
  | .add => some (.int k (k.wrap (a + b)))
  | .sub => some (.int k (k.wrap (a - b)))
  | .mul => some (.int k (k.wrap (a * b)))
  | .quo => if b = 0 then none else some (.int k (k.wrap (a.tdiv b)))
  | .rem => if b = 0 then none else some (.int k (a.tmod b))
  | .eql => some (.bool (a == b))
  | .neq => some (.bool (a != b))
  | .lss => some (.bool (decide (a < b)))
  | .leq => some (.bool (decide (a ≤ b)))
  | .gtr => some (.bool (decide (a > b)))
  | .geq => some (.bool (decide (a ≥ b)))
  | .and | .or | .xor | .andNot => pureOf (Op.intBits op k a b)
  | _ => none
def shiftBin (op : BinOp) (k : IntKind) (a b : Int) : Option Value :=
  if b < 0 then none else
  match op with
  | .shl => some (.int k (k.wrap (a * 2 ^ (min b.toNat k.bits))))
  | .shr => some (.int k (a.fdiv (2 ^ (min b.toNat k.bits))))
  | _ => none
def cellEq : Cell → Cell → Option Bool
  | .v (.int k a), .v (.int k' b) => if k = k' then some (a == b) else none
  | _, _ => none
def cellsEq : List Cell → List Cell → Option Bool
  | [], [] => some true
  | c :: cs, d :: ds => match cellEq c d, cellsEq cs ds with | some a, some b => some (a && b) | _, _ => none
  | _, _ => none
def bin (op : BinOp) (x y : Cell) : Option Value :=
  match op, x, y with
  | .shl, .v (.int k a), .v (.int _ b) => shiftBin .shl k a b
  | .shr, .v (.int k a), .v (.int _ b) => shiftBin .shr k a b
  | op, .v (.int k a), .v (.int k' b) => if k = k' then intBin op k a b else none
  | op, .v (.string a), .v (.string b) => pureOf (Op.stringOp op a b)
  | _, _, _ => none
def eqRes (op : BinOp) (b : Bool) : Option PV :=
  match op with
  | .eql => some (.one (.v (.bool b)))
  | .neq => some (.one (.v (.bool !b)))
  | _ => none


def appendC (i : TI) (x y : PV) : Option PV :=
  match x, y with
  | .one (.slice (.tip e) els), .one (.slice _ els') =>
    if e = i.size ∧ (∀ l ∈ els', l.length = i.size) ∧ (els.length + els'.length) * i.bytes ≤ 140737488355328 ∧ els.length + els'.length ≤ maxLen then some (.one (.slice (.tip i.size) (els ++ els'))) else none
  | .one (.slice .nil _), .one (.slice _ els') =>
    if (∀ l ∈ els', l.length = i.size) ∧ els'.length * i.bytes ≤ 140737488355328 ∧ els'.length ≤ maxLen then some (.one (.slice (.tip i.size) els')) else none
  | _, _ => none

structure Upd where
  slots : List (Nat × PV)
  boxes : Option (List Box)

def putD (d : Option Nat) (p : PV) : List (Nat × PV) := match d with | some d => [(d, p)] | none => []
def isWant (d : Nat) (o : Oper) : Bool :=
  match o.op with
  | .call { callee := .builtin .append, args := ⟨.tmp s :: _⟩, .. } => s == d
  | _ => false
def wants (ops : List Oper) : Option Nat → Bool
  | some d => ops.any (isWant d)
  | none => false
def taken (env : Env) : Operand → Option (PV × List (Nat × PV))
  | .tmp s => some (env s, [(s, (env s).un)])
  | x => match rdT env x with | some p => some (p, []) | none => none

/-- the constant nil, as a slice that may be appended to -/
def nilTip (tt : TT) (t : TypeId) : Operand → Option PV
  | .const (.slice none 0 0) => (match tt t with
    | some i => (match i.kind with
      | .slice e => (match tt e with | some j => if 0 < j.size then some (.one (.slice (.tip j.size) [])) else none | none => none)
      | _ => none)
    | none => none)
  | _ => none
def takenT (tt : TT) (t : TypeId) (env : Env) (x : Operand) : Option (PV × List (Nat × PV)) := match nilTip tt t x with | some p => some (p, []) | none => taken env x

def boxAt (bx : List Box) (id : Nat) : Option (List Cell) := match bx[id]? with | some b => some b.cells | none => none
def unCells (cs : List Cell) : List Cell := cs.map Cell.un
def PV.unA : PV → PV
  | .one c => .one c.un
  | .agg cs => .agg (unCells cs)
  | p => p
def isData : PV → Bool
  | .one _ | .agg _ => true
  | _ => false

def isRes : PV → Bool
  | .tup ps => ps.all isData
  | p => isData p

def fieldOf (i : TI) (f : Nat) : Option (Nat × TypeId) := match i.kind with | .struct fs => fs[f]? | _ => none
def idxOf : PV → Option Nat
  | .one (.v (.int _ n)) => if 0 ≤ n then some n.toNat else none
  | _ => none
def szOf (tt : TT) (t : TypeId) : Option Nat := match tt t with | some i => some i.size | none => none

def places (tt : TT) : List (Nat × TypeId) → Option (List (Nat × Nat))
  | [] => some []
  | (off, ft) :: fs => match szOf tt ft, places tt fs with | some s, some l => some ((off, s) :: l) | _, _ => none

/-- operations that change neither variables in memory nor permissions -/
def pureOp (tt : TT) (T : Tab) (env : Env) : Op → Option PV
  | .pick c a b => match rd env c with | some (.one (.v (.bool t))) => rd env (if t then a else b) | _ => none
  | .build t parts =>
    match tt t, rdParts env parts.toList with
    | some i, some ps =>
      match i.kind with
      | .struct fs => (match places tt fs with | some pl => (fillC (fun f => pl[f]?) (i.zero.map Zc.cell) ps).map .agg | none => none)
      | .array _ e => match szOf tt e with | some s => (fillC (fun j => some (j * s, s)) (i.zero.map Zc.cell) ps).map .agg | none => none
      | _ => none
    | _, _ => none
  | .binOp op t x y _ => match rd env x, rd env y with
    | some (.one cx), some (.one cy) =>
      match cx, cy with
      | .v (.bool a), .v (.bool b) => (match tt t with | some i => (match i.kind with | .bool => eqRes op (a == b) | _ => none) | none => none)
      | .slice _ els, .slice _ _ => (match y, tt t with | .const (.slice none _ _), some i => (match i.kind with | .slice _ => if els = [] then none else eqRes op false | _ => none) | _, _ => none)
      | cx, cy => match bin op cx cy with | some r => some (.one (.v r)) | none => none
    | some (.agg cs), some (.agg ds) => (match tt t with
      | some i => if i.flat = true ∧ i.agg = true ∧ cs.length = i.size ∧ ds.length = i.size then (match cellsEq cs ds with | some b => eqRes op b | none => none) else none
      | none => none)
    | _, _ => none
  | .unOp .not _ x => match rd env x with | some (.one (.v (.bool b))) => some (.one (.v (.bool !b))) | _ => none
  | .unOp .neg _ x => match rd env x with | some (.one (.v (.int k n))) => some (.one (.v (.int k (k.wrap (0 - n))))) | _ => none
  | .convert src dst x =>
    match tt src, tt dst, rd env x with
    | some i, some j, some (.one (.v (.int k n))) => (match i.kind, j.kind with | .int _, .int k' => some (.one (.v (.int k' (k'.wrap n)))) | _, _ => none)
    | _, _, _ => none
  | .fieldAddr s x f =>
    match tt s, rd env x with
    | some i, some p =>
      match fieldOf i f with
      | some (off, ft) =>
        match szOf tt ft with
        | some (_ + 1) => (match p with | .ref cs => some (.ref (cs.drop off)) | .ptr id o => some (.ptr id (o + off)) | _ => none)
        | _ => none
      | none => none
    | _, _ => none
  | .field s x f =>
    match tt s, rd env x with
    | some i, some (.agg cs) =>
      match fieldOf i f with
      | some (off, ft) => (match tt ft with | some j => partC j cs off | none => none)
      | none => none
    | _, _ => none
  | .indexAddr t x ix =>
    match tt t, rd env x, rd env ix with
    | some i, some p, some q =>
      match i.kind, p, idxOf q with
      | .slice e, .one (.slice _ els), some n => (match els[n]?, szOf tt e with | some l, some s => if l.length = s then some (.ref l) else none | _, _ => none)
      | .array m e, .ref cs, some n => (match szOf tt e with | some s => if n < m then some (.ref (cs.drop (n * s))) else none | none => none)
      | .array m e, .ptr id o, some n => (match szOf tt e with | some s => if n < m then some (.ptr id (o + n * s)) else none | none => none)
      | _, _, _ => none
    | _, _, _ => none
  | .index t x ix =>
    match tt t, rd env x, rd env ix with
    | some i, some (.agg cs), some q =>
      match i.kind, idxOf q with
      | .array m e, some n => (match tt e with | some j => if n < m then partC j cs (n * j.size) else none | none => none)
      | _, _ => none
    | some i, some (.one (.v (.string s))), some q =>
      match i.kind, idxOf q with
      | .str, some n => (match s.data[n]? with | some b => some (.one (.v (.int .u8 b.toNat))) | none => none)
      | _, _ => none
    | _, _, _ => none
  | .extract x n => match rd env x with | some (.tup ps) => ps[n]? | _ => none
  | .call { callee := .builtin .len, args := ⟨[x]⟩, argTypes := ⟨[t]⟩ } =>
    match tt t, rd env x with
    | some i, some p =>
      match i.kind, p with
      | .slice _, .one (.slice _ els) => some (.one (.v (.int .i64 els.length)))
      | .str, .one (.v (.string s)) => some (.one (.v (.int .i64 s.size)))
      | .array n _, _ => some (.one (.v (.int .i64 n)))
      | _, _ => none
    | _, _ => none
  | _ => none

/-- calls of functions, and literals of slices: they make memory, and nothing else -/
def makeOp (tt : TT) (T : Tab) (env : Env) : Op → Option PV
  | .call { callee := .value (.func f), args, .. } =>
    match rds env args.toList, T f with
    | some ps, some F => if ps.all isData then (match F (ps.map PV.nnB) with | some r => if isRes r then some r else none | none => none) else none
    | _, _ => none
  | .buildSlice t len parts =>
    match tt t, rdParts env parts.toList with
    | some i, some ps =>
      match i.kind with
      | .slice e =>
        match tt e with
        | some j => if len = 0 ∧ ps = [] then some (.one (.slice .nil [])) else if 0 < len ∧ 0 < j.size ∧ len * j.size ≤ 16777216 ∧ j.zero.length = j.size ∧ ps.map (·.1) = List.range len then
            (match ps.mapM (fun p => p.2.cells) with
             | some els => if els.all (·.length == j.size) then some (.one (.slice (.tip j.size) els)) else none
             | none => none) else none
        | none => none
      | _ => none
    | _, _ => none
  | _ => none

/-- an address of an element of a slice, made in the same region: what lies there is never a variable -/
def refAddr (tt : TT) (ops : List Oper) : Nat → Operand → Bool
  | n + 1, .tmp t => (match ops.find? (fun o => o.dst == some t) with
    | some o => (match o.op with
      | .indexAddr ty x _ => (match tt ty with | some i => (match i.kind with | .slice _ => true | _ => refAddr tt ops n x) | none => false)
      | .fieldAddr _ x _ => refAddr tt ops n x
      | _ => false)
    | none => false)
  | _, _ => false

def eff (tt : TT) (T : Tab) (ops : List Oper) (o : Oper) (env : Env) (bx : List Box) : Option Upd :=
  match o.op with
  | .move x => if wants ops o.dst then (match taken env x with | some (p, ws) => some ⟨ws ++ putD o.dst p, none⟩ | none => none)
      else (match rd env x with | some p => some ⟨putD o.dst p, none⟩ | none => none)
  | .assign x => match takenT tt o.type env x with | some (p, ws) => some ⟨ws ++ putD o.dst p, none⟩ | none => none
  | .alloc t => match tt t with | some i => some ⟨putD o.dst (.ptr bx.length 0), some (bx ++ [⟨i.zero.map Zc.cell, false⟩])⟩ | none => none
  | .box t x => match rd env x with
    | some p => (match p.cells with | some cs => some ⟨putD o.dst (.ptr bx.length 0), some (bx ++ [⟨cs, false⟩])⟩ | none => none)
    | none => none
  | .load t x => match tt t, rd env x with
    | some i, some (.ref cs) => (match partC i cs 0 with | some p => some ⟨putD o.dst p, none⟩ | none => none)
    | some i, some (.ptr id off) =>
      if refAddr tt ops 10 x then none else
      match bx[id]? with
      | some b =>
        if wants ops o.dst && !b.frz && !i.agg then
          (match b.cells[off]? with | some c => some ⟨putD o.dst (.one c), some (bx.set id ⟨b.cells.set off c.un, false⟩)⟩ | none => none)
        else (match partC i b.cells off with | some p => some ⟨putD o.dst p.unA, none⟩ | none => none)
      | none => none
    | _, _ => none
  | .store t x y => match tt t, rd env x, takenT tt t env y with
    | some i, some (.ptr id off), some (p, ws) =>
      match bx[id]?, p.cells with
      | some b, some ds => if o.dst = none ∧ b.frz = false ∧ ds.length = i.size ∧ off + ds.length ≤ b.cells.length then some ⟨ws, some (bx.set id ⟨putCells b.cells off ds, false⟩)⟩ else none
      | _, _ => none
    | _, _, _ => none
  | .call { callee := .builtin .append, args := ⟨[.tmp s, y]⟩, argTypes := ⟨[t, t']⟩ } =>
    match tt t, rd env y with
    | some i, some q =>
      match i.kind with
      | .slice e => (match tt e with
        | some j => if t' = t ∧ 0 < j.size ∧ j.zero.length = j.size then (match appendC j (env s) q, o.dst with | some p, some d => some ⟨[(s, (env s).un), (d, p)], none⟩ | _, _ => none) else none
        | none => none)
      | _ => none
    | _, _ => none
  | .call { callee := .builtin .append, args := ⟨[.const (.slice none 0 0), y]⟩, argTypes := ⟨[t, t']⟩ } =>
    match tt t, rd env y with
    | some i, some q =>
      match i.kind with
      | .slice e => (match tt e with
        | some j => if t' = t ∧ 0 < j.size ∧ j.zero.length = j.size then (match appendC j (.one (.slice .nil [])) q, o.dst with | some p, some d => some ⟨[(d, p)], none⟩ | _, _ => none) else none
        | none => none)
      | _ => none
    | _, _ => none
  | op => match pureOp tt T env op with
    | some p => some ⟨putD o.dst p, none⟩
    | none => match makeOp tt T env op with | some p => some ⟨putD o.dst p, none⟩ | none => none

def setAll (env : List PV) : List (Nat × PV) → List PV
  | [] => env
  | (d, p) :: ws => setAll (env.set d p) ws
def Upd.app (u : Upd) (st : ASt) : ASt := ⟨setAll st.env u.slots, match u.boxes with | some b => b | none => st.boxes⟩

def goes (ops : List Oper) (env : Env) : Option (Nat × Bool) → Option Bool
  | none => some true
  | some (j, want) =>
    match ops[j]? with
    | some o => (match o.dst with
      | some d => (match env d with | .one (.v (.bool b)) => some (b == want) | .skip => some false | _ => none)
      | none => some false)
    | none => some false

def step1 (tt : TT) (T : Tab) (ops : List Oper) (o : Oper) (st : ASt) : Option Upd :=
  match goes ops st.get o.guard with
  | some true => eff tt T ops o st.get st.boxes
  | some false => some ⟨putD o.dst .skip, none⟩
  | none => none
def run1 (tt : TT) (T : Tab) (ops : List Oper) (o : Oper) (st : ASt) : Option ASt :=
  match step1 tt T ops o st with | some u => some (u.app st) | none => none
def runL (tt : TT) (T : Tab) (ops : List Oper) : List Oper → ASt → Option ASt
  | [], st => some st
  | o :: l, st => match run1 tt T ops o st with | some st' => runL tt T ops l st' | none => none

/-- which slots and variables an operation reads and writes -/
def tmpsOf (l : List Operand) : List Nat := l.filterMap fun | .tmp t => some t | _ => none
def rdS (ops : List Oper) (o : Oper) : List Nat :=
  tmpsOf o.op.operands.toList ++ (match o.guard with | some (j, _) => (match ops[j]? with | some o' => o'.dst.toList | none => []) | none => [])
def srcS (ops : List Oper) (o : Oper) : List Nat :=
  match o.op with
  | .move (.tmp s) => if wants ops o.dst then [s] else []
  | .assign (.tmp s) => [s]
  | .store _ _ (.tmp s) => [s]
  | .call { callee := .builtin .append, args := ⟨.tmp s :: _⟩, .. } => [s]
  | _ => []
def wrS (ops : List Oper) (o : Oper) : List Nat := srcS ops o ++ o.dst.toList
def rwB (tt : TT) (ops : List Oper) (o : Oper) : Bool := match o.op with | .load _ x => !refAddr tt ops 10 x | .store .. | .alloc _ | .box .. => true | _ => false
def wrB (tt : TT) (ops : List Oper) (o : Oper) : Bool := match o.op with | .load _ x => wants ops o.dst && !refAddr tt ops 10 x | .store .. | .alloc _ | .box .. => true | _ => false
def apart (l m : List Nat) : Bool := l.all fun x => !m.contains x
def indep (tt : TT) (ops : List Oper) (o o' : Oper) : Bool :=
  apart (wrS ops o) (rdS ops o') && apart (wrS ops o) (wrS ops o') && apart (wrS ops o') (rdS ops o) && !(wrB tt ops o && rwB tt ops o') && !(wrB tt ops o' && rwB tt ops o)
def predsOf (o : Oper) : List Nat := (o.after.toList.filter (Region.binds .any)).map (·.on)
def befL : List Oper → List Nat → List Nat
  | [], acc => acc
  | o :: l, acc => befL l (acc ++ [(predsOf o).foldl (fun s i => s ||| (2 ^ i ||| acc.getD i 0)) 0])
def drawOk (tt : TT) (ops : List Oper) : Bool :=
  let bs := befL ops []
  (List.range ops.length).all fun j => match ops[j]? with
    | some o => (predsOf o).all (· < j) && (List.range j).all fun i => match ops[i]? with | some o' => (bs.getD j 0).testBit i || indep tt ops o' o | none => true
    | none => true
def codeOk (tt : TT) : Code → Bool
  | .region _ ops draw => !draw || drawOk tt ops.toList
  | .seq a b => codeOk tt a && codeOk tt b
  | .cond _ a b => codeOk tt a && codeOk tt b
  | .block _ c => codeOk tt c
  | .loop c => codeOk tt c
  | _ => true

inductive AE where
  | normal
  | exit (id : Nat)
  | ret

/-- what is known at a loop's head: the slots ks, the first n variables in memory -/
def forget (ks : List Nat) (n : Nat) (st : ASt) : ASt :=
  ⟨st.env.zipIdx.map fun (p, i) => if ks.contains i then (match p with | .ptr id _ => if id < n then p else .undef | .mref id _ _ _ => if id < n then p else .undef | .tup _ => .undef | p => p) else .undef, st.boxes.take n⟩

/-- the first region of a piece of code -/
def firstId : Code → Nat
  | .region id _ _ => id
  | .seq a _ => firstId a
  | .block _ c => firstId c
  | .loop c => firstId c
  | _ => 0
abbrev Keep := Nat → List Nat × Nat

def iter (kp : List Nat × Nat) (f : ASt → Option (AE × ASt)) : Nat → ASt → Option (AE × ASt)
  | 0, _ => none
  | n + 1, st => match f (forget kp.1 kp.2 st) with
    | some (.normal, st') => iter kp f n st'
    | r => r

def exec (tt : TT) (T : Tab) (kp : Keep) (n : Nat) : Code → ASt → Option (AE × ASt)
  | .skip, st => some (.normal, st)
  | .region _ ops _, st => match runL tt T ops.toList ops.toList st with | some st' => some (.normal, st') | none => none
  | .seq a b, st => match exec tt T kp n a st with
    | some (.normal, st') => exec tt T kp n b st'
    | r => r
  | .cond x a b, st => match rd st.get x with
    | some (.one (.v (.bool t))) => if t then exec tt T kp n a st else exec tt T kp n b st
    | _ => none
  | .block id c, st => match exec tt T kp n c st with
    | some (.exit id', st') => if id' = id then some (.normal, st') else some (.exit id', st')
    | r => r
  | .loop c, st => iter (kp (firstId c)) (exec tt T kp n c) n st
  | .exit id, st => some (.exit id, st)
  | .ret, st => some (.ret, st)
  | _, _ => none

def loadRes (tt : TT) (st : ASt) : ResultVar → Option PV
  | .tmp t => some (st.get t).un
  | .cell a t => match tt t, st.get a with
    | some i, .ptr id off => (match st.boxes[id]? with | some b => (match partC i b.cells off with | some p => some p.unA | none => none) | none => none)
    | _, _ => none
def loadAll (tt : TT) (st : ASt) : List ResultVar → Option (List PV)
  | [] => some []
  | r :: rs => match loadRes tt st r, loadAll tt st rs with | some p, some ps => some (p :: ps) | _, _ => none
def execFn (tt : TT) (T : Tab) (kp : Keep) (n : Nat) (fn : Func) (args : List PV) : Option PV :=
  match fn.body with
  | some c =>
    match exec tt T kp n c ⟨args ++ List.replicate (fn.ntmps - args.length) .skip, []⟩ with
    | some (.ret, st) | some (.normal, st) =>
      (match loadAll tt st fn.results.toList with
      | some [p] => if isData p then some p.nn else none
      | some ps => if ps.all isData then some (PV.nn (.tup ps)) else none
      | none => none)
    | _ => none
  | none => none
end Go.Ab
end
section
namespace Go.Ab
open Go.RowKit
set_option linter.unusedVariables false

inductive All2 {α β : Type} (R : α → β → Prop) : List α → List β → Prop
  | nil : All2 R [] []
  | cons {a b l m} : R a b → All2 R l m → All2 R (a :: l) (b :: m)

theorem All2.length {α β : Type} {R : α → β → Prop} {l : List α} {m : List β} (h : All2 R l m) : l.length = m.length := by
  induction h with
  | nil => rfl
  | cons _ _ ih => simp [ih]
theorem All2.mono {α β : Type} {R R' : α → β → Prop} {l : List α} {m : List β} (h : All2 R l m) (hr : ∀ a b, R a b → R' a b) : All2 R' l m := by
  induction h with
  | nil => exact .nil
  | cons h _ ih => exact .cons (hr _ _ h) ih
theorem All2.get {α β : Type} {R : α → β → Prop} {l : List α} {m : List β} (h : All2 R l m) {i : Nat} {a : α} (ha : l[i]? = some a) : ∃ b, m[i]? = some b ∧ R a b := by
  induction h generalizing i with
  | nil => simp at ha
  | cons h _ ih =>
    cases i with
    | zero => simp at ha; subst ha; exact ⟨_, by simp, h⟩
    | succ i => simpa using ih (by simpa using ha)
theorem All2.of_get {α β : Type} {R : α → β → Prop} : ∀ {l : List α} {m : List β}, l.length = m.length → (∀ (i : Nat) a b, l[i]? = some a → m[i]? = some b → R a b) → All2 R l m
  | [], [], _, _ => .nil
  | a :: l, b :: m, hl, h => .cons (h 0 a b (by simp) (by simp)) (All2.of_get (by simpa using hl) fun i x y hx hy => h (i + 1) x y (by simpa using hx) (by simpa using hy))
theorem All2.append {α β : Type} {R : α → β → Prop} {l l' : List α} {m m' : List β} (h : All2 R l m) (h' : All2 R l' m') : All2 R (l ++ l') (m ++ m') := by
  induction h with
  | nil => exact h'
  | cons h _ ih => exact .cons h ih
theorem All2.take {α β : Type} {R : α → β → Prop} {l : List α} {m : List β} (h : All2 R l m) (n : Nat) : All2 R (l.take n) (m.take n) := by
  induction h generalizing n with
  | nil => simpa using All2.nil
  | cons h _ ih => cases n with
    | zero => exact .nil
    | succ n => exact .cons h (ih n)
theorem All2.drop {α β : Type} {R : α → β → Prop} {l : List α} {m : List β} (h : All2 R l m) (n : Nat) : All2 R (l.drop n) (m.drop n) := by
  induction h generalizing n with
  | nil => simpa using All2.nil
  | cons h t ih => cases n with
    | zero => exact .cons h t
    | succ n => simpa using ih n
theorem All2.map_left {α β γ : Type} {R : α → β → Prop} {R' : γ → β → Prop} {f : α → γ} {l : List α} {m : List β} (h : All2 R l m) (hr : ∀ a b, R a b → R' (f a) b) : All2 R' (l.map f) m := by
  induction h with
  | nil => exact .nil
  | cons h _ ih => exact .cons (hr _ _ h) ih

/-- a cell (no permission in it) stands for a value, in the memory S of w -/
inductive RepC (S : Nat → Nat → Prop) (w : World) : Cell → Value → Prop
  | v (x : Value) : x.oneCell' = true → (∀ a n c, x ≠ .slice a n c) → RepC S w (.v x) x
  | nil (a : Option Addr) : RepC S w (.slice .nil []) (.slice a 0 0)
  | slice (els : List (List Cell)) (a : Option Addr) (c e b o : Nat) (m : Nat → Nat → Value)
      (hc : els.length ≤ c) (hx : c ≤ maxLen) (he : ∀ l ∈ els, l.length = e) (h0 : 0 < e)
      (ha : els ≠ [] → a = some ⟨b, o, none⟩)
      (hm : ∀ i l, els[i]? = some l → ∀ j, j < e → S b (o + i * e + j) ∧ w.cell? ⟨b, o + i * e + j, none⟩ = some (m i j))
      (hr : ∀ i l, els[i]? = some l → ∀ j x, l[j]? = some x → RepC S w x (m i j)) :
      RepC S w (.slice .no els) (.slice a els.length c)

theorem RepC.one {S : Nat → Nat → Prop} {w : World} {c : Cell} {v : Value} (h : RepC S w c v) : v.oneCell' = true := by
  cases h with
  | v _ h => exact h
  | nil => rfl
  | slice => rfl

theorem RepC.mono {S S' : Nat → Nat → Prop} {w w' : World} {c : Cell} {v : Value} (h : RepC S w c v) (hS : ∀ b o, S b o → S' b o)
    (hw : ∀ b o, S b o → w'.cell? ⟨b, o, none⟩ = w.cell? ⟨b, o, none⟩) : RepC S' w' c v := by
  induction h with
  | v x h hn => exact .v x h hn
  | nil a => exact .nil a
  | slice els a c e b o m hc hx he h0 ha hm hr ih =>
    exact .slice els a c e b o m hc hx he h0 ha (fun i l hl j hj => ⟨hS _ _ (hm i l hl j hj).1, (hw _ _ (hm i l hl j hj).1).trans (hm i l hl j hj).2⟩) (fun i l hl j x hxx => ih i l hl j x hxx)

theorem RepC.un {S : Nat → Nat → Prop} {w : World} {c : Cell} {v : Value} (h : RepC S w c v) : c.un = c := by
  cases h <;> rfl

/-- the list of cells stands for the list of values -/
abbrev RepL (S : Nat → Nat → Prop) (w : World) : List Cell → List Value → Prop := All2 (RepC S w)

/-- values without tuples -/
inductive RepB (S : Nat → Nat → Prop) (w : World) (bm : Nat → Option Nat) : PV → Value → Prop
  | undef (v) : RepB S w bm .undef v
  | skip : RepB S w bm .skip Go.undef
  | one {c v} : RepC S w c v → RepB S w bm (.one c) v
  | agg {cs vs} : RepL S w cs vs → RepB S w bm (.agg cs) (.agg vs.toArray)
  | ref {cs} (b o : Nat) (vs : List Value) : RepL S w cs vs → (∀ j, j < vs.length → S b (o + j)) → (∀ j u, vs[j]? = some u → w.cell? ⟨b, o + j, none⟩ = some u) → RepB S w bm (.ref cs) (.pointer (some ⟨b, o, none⟩))
  | ptr (id off k) : bm id = some k → RepB S w bm (.ptr id off) (.pointer (some ⟨k, off, none⟩))
  | mref (id off n e c k) : bm id = some k → n ≤ c → c ≤ maxLen → RepB S w bm (.mref id off n e) (.slice (some ⟨k, off, none⟩) n c)

inductive RepV (S : Nat → Nat → Prop) (w : World) (bm : Nat → Option Nat) : PV → Value → Prop
  | base {p v} : RepB S w bm p v → RepV S w bm p v
  | tup {ps vs} : All2 (RepB S w bm) ps vs → RepV S w bm (.tup ps) (.tuple vs.toArray)

theorem RepB.mono {S S' : Nat → Nat → Prop} {w w' : World} {bm : Nat → Option Nat} {p : PV} {v : Value} (h : RepB S w bm p v) (hS : ∀ b o, S b o → S' b o)
    (hw : ∀ b o, S b o → w'.cell? ⟨b, o, none⟩ = w.cell? ⟨b, o, none⟩) : RepB S' w' bm p v := by
  cases h with
  | undef => exact .undef _
  | skip => exact .skip
  | one h => exact .one (h.mono hS hw)
  | agg h => exact .agg (All2.mono h fun _ _ h => h.mono hS hw)
  | ref b o vs h hs hc =>
    refine .ref b o vs (All2.mono h fun _ _ h => h.mono hS hw) (fun j hj => hS _ _ (hs j hj)) (fun j u hu => ?_)
    have hj : j < vs.length := (List.getElem?_eq_some_iff.1 hu).1
    exact (hw _ _ (hs j hj)).trans (hc j u hu)
  | ptr id off k h => exact .ptr id off k h
  | mref id off n e c k h h1 h2 => exact .mref id off n e c k h h1 h2

theorem RepV.mono {S S' : Nat → Nat → Prop} {w w' : World} {bm : Nat → Option Nat} {p : PV} {v : Value} (h : RepV S w bm p v) (hS : ∀ b o, S b o → S' b o)
    (hw : ∀ b o, S b o → w'.cell? ⟨b, o, none⟩ = w.cell? ⟨b, o, none⟩) : RepV S' w' bm p v := by
  cases h with
  | base h => exact .base (h.mono hS hw)
  | tup h => exact .tup (All2.mono h fun _ _ h => h.mono hS hw)

inductive Occ where
  | box (id : Nat)
  | slot (i : Nat)
  | cell (id o : Nat)
deriving DecidableEq

/-- the holder x of a slice may append: the cells behind it are free -/
def Tip0 (g : Nat → Option Occ) (S : Nat → Nat → Prop) (w : World) (B : Nat) (x : Occ) (e : Nat) (v : Value) : Prop :=
  (∃ a, v = .slice a 0 0) ∨ ∃ b o n c arr T, v = .slice (some ⟨b, o, none⟩) n c ∧ g b = some x ∧ B ≤ b ∧ w.heap[b]? = some (.cells arr T (0, 0)) ∧ o + c * e ≤ arr.size ∧ ∀ j, o + n * e ≤ j → ¬ S b j

def TipOk (g : Nat → Option Occ) (S : Nat → Nat → Prop) (w : World) (B : Nat) (x : Occ) (e : Nat) (els : List (List Cell)) (v : Value) : Prop := Tip0 g S w B x e v ∧ ∀ l ∈ els, l.length = e

def RepS (g : Nat → Option Occ) (S : Nat → Nat → Prop) (w : World) (bm : Nat → Option Nat) (B : Nat) (x : Occ) (p : PV) (v : Value) : Prop :=
  match p with
  | .one (.slice (.tip e) els) => RepC S w (.slice .no els) v ∧ TipOk g S w B x e els v
  | p => RepV S w bm p v
def RepO (g : Nat → Option Occ) (S : Nat → Nat → Prop) (w : World) (B : Nat) (x : Occ) (c : Cell) (v : Value) : Prop :=
  match c with
  | .slice (.tip e) els => RepC S w (.slice .no els) v ∧ TipOk g S w B x e els v
  | c => RepC S w c v

theorem RepS.un {g : Nat → Option Occ} {S : Nat → Nat → Prop} {w : World} {bm : Nat → Option Nat} {B : Nat} {x : Occ} {p : PV} {v : Value} (h : RepS g S w bm B x p v) : RepV S w bm p.un v := by
  unfold RepS at h
  split at h
  · exact .base (.one h.1)
  · rename_i hp
    cases p with
    | one c =>
      cases c with
      | v x => exact h
      | slice o els =>
        cases o with
        | nil => exact h
        | no => exact h
        | tip e => exact absurd rfl (hp e els)
    | _ => exact h
theorem RepO.un {g : Nat → Option Occ} {S : Nat → Nat → Prop} {w : World} {B : Nat} {x : Occ} {c : Cell} {v : Value} (h : RepO g S w B x c v) : RepC S w c.un v := by
  unfold RepO at h
  split at h
  · exact h.1
  · rename_i hp
    cases c with
    | v x => exact h
    | slice o els =>
      cases o with
      | nil => exact h
      | no => exact h
      | tip e => exact absurd rfl (hp e els)

theorem RepS.of_V {g : Nat → Option Occ} {S : Nat → Nat → Prop} {w : World} {bm : Nat → Option Nat} {B : Nat} {x : Occ} {p : PV} {v : Value} (h : RepV S w bm p v) : RepS g S w bm B x p v := by
  unfold RepS
  split
  · cases h with
    | base h => cases h with
      | one h => cases h
  · exact h
theorem RepO.of_C {g : Nat → Option Occ} {S : Nat → Nat → Prop} {w : World} {B : Nat} {x : Occ} {c : Cell} {v : Value} (h : RepC S w c v) : RepO g S w B x c v := by
  unfold RepO
  split
  · cases h
  · exact h

/-- variable id in memory, in block k -/
structure BoxAt (g : Nat → Option Occ) (S : Nat → Nat → Prop) (w : World) (B : Nat) (id k : Nat) (b : Box) : Prop where
  own : g k = some (.box id)
  base : B ≤ k
  blk : ∃ arr T, w.heap[k]? = some (.cells arr T (0, 0)) ∧ arr.size = b.cells.length ∧ ∀ (o : Nat) c v, b.cells[o]? = some c → arr[o]? = some v → RepO g S w B (.cell id o) c v
  free : b.frz = false → ∀ o, ¬ S k o
  held : b.frz = true → ∀ o, o < b.cells.length → S k o
def BoxOk (g : Nat → Option Occ) (S : Nat → Nat → Prop) (w : World) (B : Nat) (bm : Nat → Option Nat) (id : Nat) (b : Box) : Prop := ∃ k, bm id = some k ∧ BoxAt g S w B id k b

structure SimX (B : Nat) (w0 : World) (S0 S : Nat → Nat → Prop) (g : Nat → Option Occ) (bm : Nat → Option Nat) (st : ASt) (a : Act) (w : World) : Prop where
  dfr : a.defers = []
  size : a.tmps.size = st.env.length
  slots : ∀ (i : Nat) p v, st.env[i]? = some p → a.tmps[i]? = some v → RepS g S w bm B (.slot i) p v
  boxes : ∀ (id : Nat) b, st.boxes[id]? = some b → BoxOk g S w B bm id b
  dom : ∀ id k, bm id = some k → id < st.boxes.length
  below : Below B w0 w
  base : B ≤ w.heap.size
  mono : ∀ b o, S0 b o → S b o
  fresh : ∀ b o, S b o → S0 b o ∨ B ≤ b
  slt : ∀ b o, S b o → b < w.heap.size

def Sim (B : Nat) (w0 : World) (S0 : Nat → Nat → Prop) (st : ASt) (a : Act) (w : World) : Prop := ∃ S g bm, SimX B w0 S0 S g bm st a w

theorem heap_lt {w : World} {b : Nat} {x : Obj} (h : w.heap[b]? = some x) : b < w.heap.size := by
  rcases Nat.lt_or_ge b w.heap.size with h' | h'
  · exact h'
  · rw [Array.getElem?_eq_none h'] at h; cases h

/-- memory grows: new blocks, and what is kept of them -/
structure Grow (S S' : Nat → Nat → Prop) (w w' : World) : Prop where
  below : Below w.heap.size w w'
  mono : ∀ b o, S b o → S' b o
  fresh : ∀ b o, S' b o → S b o ∨ w.heap.size ≤ b
  slt : ∀ b o, S' b o → b < w'.heap.size

theorem Grow.cell {S S' : Nat → Nat → Prop} {w w' : World} (h : Grow S S' w w') {b : Nat} (hb : b < w.heap.size) (o : Nat) : w'.cell? ⟨b, o, none⟩ = w.cell? ⟨b, o, none⟩ := h.below.cell (p := ⟨b, o, none⟩) hb
theorem Tip0.grow {g : Nat → Option Occ} {S S' : Nat → Nat → Prop} {w w' : World} {B : Nat} {x : Occ} {e : Nat} {v : Value} (h : Tip0 g S w B x e v) (hg : Grow S S' w w') : Tip0 g S' w' B x e v := by
  rcases h with h | ⟨b, o, n, c, arr, T, rfl, h1, h2, h3, h4, h5⟩
  · exact .inl h
  · refine .inr ⟨b, o, n, c, arr, T, rfl, h1, h2, (hg.below.block b (heap_lt h3)).trans h3, h4, fun j hj hs => ?_⟩
    rcases hg.fresh _ _ hs with h | h
    · exact h5 j hj h
    · have := heap_lt h3; omega
theorem TipOk.grow {g : Nat → Option Occ} {S S' : Nat → Nat → Prop} {w w' : World} {B : Nat} {x : Occ} {e : Nat} {els : List (List Cell)} {v : Value} (h : TipOk g S w B x e els v) (hg : Grow S S' w w') : TipOk g S' w' B x e els v := ⟨h.1.grow hg, h.2⟩
theorem RepC.grow {S S' : Nat → Nat → Prop} {w w' : World} {c : Cell} {v : Value} (h : RepC S w c v) (hl : ∀ b o, S b o → b < w.heap.size) (hg : Grow S S' w w') : RepC S' w' c v :=
  h.mono hg.mono fun b o hs => hg.cell (hl b o hs) o
theorem RepV.grow {S S' : Nat → Nat → Prop} {w w' : World} {bm : Nat → Option Nat} {p : PV} {v : Value} (h : RepV S w bm p v) (hl : ∀ b o, S b o → b < w.heap.size) (hg : Grow S S' w w') : RepV S' w' bm p v :=
  h.mono hg.mono fun b o hs => hg.cell (hl b o hs) o
theorem RepS.grow {g : Nat → Option Occ} {S S' : Nat → Nat → Prop} {w w' : World} {bm : Nat → Option Nat} {B : Nat} {x : Occ} {p : PV} {v : Value} (h : RepS g S w bm B x p v) (hl : ∀ b o, S b o → b < w.heap.size) (hg : Grow S S' w w') : RepS g S' w' bm B x p v := by
  unfold RepS at h ⊢
  split at h
  · exact ⟨h.1.grow hl hg, h.2.grow hg⟩
  · exact h.grow hl hg
theorem RepO.grow {g : Nat → Option Occ} {S S' : Nat → Nat → Prop} {w w' : World} {B : Nat} {x : Occ} {c : Cell} {v : Value} (h : RepO g S w B x c v) (hl : ∀ b o, S b o → b < w.heap.size) (hg : Grow S S' w w') : RepO g S' w' B x c v := by
  unfold RepO at h ⊢
  split at h
  · exact ⟨h.1.grow hl hg, h.2.grow hg⟩
  · exact h.grow hl hg
theorem BoxAt.grow {g : Nat → Option Occ} {S S' : Nat → Nat → Prop} {w w' : World} {B : Nat} {id k : Nat} {b : Box} (h : BoxAt g S w B id k b) (hl : ∀ b o, S b o → b < w.heap.size) (hg : Grow S S' w w') : BoxAt g S' w' B id k b := by
  obtain ⟨arr, T, h1, h2, h3⟩ := h.blk
  refine ⟨h.own, h.base, ⟨arr, T, (hg.below.block _ (heap_lt h1)).trans h1, h2, fun o c v hc hv => (h3 o c v hc hv).grow hl hg⟩, fun hf o hs => ?_, fun hf o ho => hg.mono _ _ (h.held hf o ho)⟩
  rcases hg.fresh _ _ hs with h' | h'
  · exact h.free hf o h'
  · have := heap_lt h1; omega
theorem BoxOk.grow {g : Nat → Option Occ} {S S' : Nat → Nat → Prop} {w w' : World} {B : Nat} {bm : Nat → Option Nat} {id : Nat} {b : Box} (h : BoxOk g S w B bm id b) (hl : ∀ b o, S b o → b < w.heap.size) (hg : Grow S S' w w') : BoxOk g S' w' B bm id b :=
  let ⟨k, hk, hb⟩ := h; ⟨k, hk, hb.grow hl hg⟩
theorem SimX.grow {B : Nat} {w0 : World} {S0 S S' : Nat → Nat → Prop} {g : Nat → Option Occ} {bm : Nat → Option Nat} {st : ASt} {a : Act} {w w' : World} (h : SimX B w0 S0 S g bm st a w) (hg : Grow S S' w w') : SimX B w0 S0 S' g bm st a w' :=
  ⟨h.dfr, h.size, fun i p v hp hv => (h.slots i p v hp hv).grow h.slt hg, fun id b hb => (h.boxes id b hb).grow h.slt hg, h.dom, h.below.trans (hg.below.mono h.base), Nat.le_trans h.base hg.below.size,
   fun b o hs => hg.mono _ _ (h.mono b o hs), fun b o hs => by
    rcases hg.fresh _ _ hs with h' | h'
    · exact h.fresh _ _ h'
    · exact .inr (Nat.le_trans h.base h'), hg.slt⟩

theorem Grow.refl {S : Nat → Nat → Prop} {w : World} (hl : ∀ b o, S b o → b < w.heap.size) : Grow S S w w := ⟨Below.refl _ _, fun _ _ h => h, fun _ _ h => .inl h, hl⟩
theorem Grow.drew {S S' : Nat → Nat → Prop} {w w' : World} (h : Grow S S' w w') : Grow S S' w w'.drew := ⟨h.below.drew, h.mono, h.fresh, h.slt⟩
end Go.Ab
end
section
namespace Go.Ab
open Go.RowKit
set_option linter.unusedVariables false

structure TSpec (P : Program) (t : TypeId) (i : TI) : Prop where
  ex : ∃ info d z, P.info? t = some info ∧ P.underlying t = some d ∧ info.zero = some z ∧ info.size = i.size ∧ tkind d = i.kind ∧ zcs z.cells.toList = some i.zero ∧ info.bytes = i.bytes ∧ i.flat = (flatTy P 20 t && !P.eqGuardType P.depth t)
theorem tinfo_spec {P : Program} {t : TypeId} {i : TI} (h : tinfo P t = some i) : TSpec P t i := by
  unfold tinfo at h
  split at h
  · rename_i info d h1 h2
    split at h
    · rename_i z hz
      split at h
      · rename_i zs hzs
        simp at h
        subst h
        exact ⟨info, d, z, h1, h2, hz, rfl, rfl, hzs, rfl, rfl⟩
      · simp at h
    · simp at h
  · simp at h

section
variable {P : Program} {t : TypeId} {i : TI}
theorem TSpec.run_size (h : TSpec P t i) (w : World) : (sizeOf t).run P w = .ok i.size w := by
  obtain ⟨info, d, z, h1, h2, h3, h4, h5, h6, h7⟩ := h.ex
  simp [sizeOf, typeInfo, h1, h4]
theorem TSpec.run_agg (h : TSpec P t i) (w : World) : (isAgg t).run P w = .ok i.agg w := by
  obtain ⟨info, d, z, h1, h2, h3, h4, h5, h6, h7⟩ := h.ex
  unfold TI.agg
  rw [← h5]
  cases d <;> simp [isAgg, run_underlying h2, tkind]
theorem TSpec.slice (h : TSpec P t i) {e : TypeId} (hk : i.kind = .slice e) : P.underlying t = some (.slice e) := by
  obtain ⟨info, d, z, h1, h2, h3, h4, h5, h6, h7⟩ := h.ex
  rw [hk] at h5
  cases d <;> simp [tkind] at h5
  subst h5; exact h2
theorem TSpec.array (h : TSpec P t i) {n : Nat} {e : TypeId} (hk : i.kind = .array n e) : P.underlying t = some (.array n e) := by
  obtain ⟨info, d, z, h1, h2, h3, h4, h5, h6, h7⟩ := h.ex
  rw [hk] at h5
  cases d <;> simp [tkind] at h5
  obtain ⟨rfl, rfl⟩ := h5; exact h2
theorem TSpec.int (h : TSpec P t i) {k : IntKind} (hk : i.kind = .int k) : P.underlying t = some (.int k) := by
  obtain ⟨info, d, z, h1, h2, h3, h4, h5, h6, h7⟩ := h.ex
  rw [hk] at h5
  cases d <;> simp [tkind] at h5
  subst h5; exact h2
theorem TSpec.str (h : TSpec P t i) (hk : i.kind = .str) : P.underlying t = some .string := by
  obtain ⟨info, d, z, h1, h2, h3, h4, h5, h6, h7⟩ := h.ex
  rw [hk] at h5
  cases d <;> simp [tkind] at h5
  exact h2
theorem TSpec.struct (h : TSpec P t i) {fs : List (Nat × TypeId)} (hk : i.kind = .struct fs) : ∃ fields : Array Field, P.underlying t = some (.struct fields) ∧ fs = fields.toList.map fun f => (f.offset, f.type) := by
  obtain ⟨info, d, z, h1, h2, h3, h4, h5, h6, h7⟩ := h.ex
  rw [hk] at h5
  cases d <;> simp [tkind] at h5
  exact ⟨_, h2, h5.symm⟩
theorem zcs_vals : ∀ {vs : List Value} {zs : List Zc}, zcs vs = some zs → vs = zs.map Zc.val
  | [], zs, h => by simp [zcs] at h; subst h; rfl
  | v :: vs, zs, h => by
    simp only [zcs] at h
    split at h
    · rename_i z zs' h1 h2
      simp at h
      subst h
      simp [Zc.of_val h1, zcs_vals h2]
    · simp at h
theorem TSpec.zero (h : TSpec P t i) (w : World) : ∃ z, (zeroValue t).run P w = .ok z w ∧ z.cells.toList = i.zero.map Zc.val := by
  obtain ⟨info, d, z, h1, h2, h3, h4, h5, h6, h7⟩ := h.ex
  exact ⟨z, by simp [zeroValue, typeInfo, h1, h3], zcs_vals h6⟩
end

theorem zero_rep (S : Nat → Nat → Prop) (w : World) : ∀ zs : List Zc, RepL S w (zs.map Zc.cell) (zs.map Zc.val)
  | [] => .nil
  | z :: zs => .cons (by cases z <;> first | exact .v _ rfl (by simp) | exact .nil _) (zero_rep S w zs)

theorem ofCell_rep {S : Nat → Nat → Prop} {w : World} {v : Value} {c : Cell} (h : ofCell v = some c) : RepC S w c v := by
  cases v <;> simp only [ofCell] at h
  case int k n => simp at h; subst h; exact .v _ rfl (by simp)
  case bool b => simp at h; subst h; exact .v _ rfl (by simp)
  case string s => simp at h; subst h; exact .v _ rfl (by simp)
  case slice a n c' =>
    cases a with
    | some a => simp at h
    | none =>
      cases n with
      | succ n => simp at h
      | zero => cases c' with
        | succ n => simp at h
        | zero => simp at h; subst h; exact .nil _
  all_goals simp at h
theorem ofCells_rep {S : Nat → Nat → Prop} {w : World} : ∀ {vs : List Value} {cs : List Cell}, ofCells vs = some cs → RepL S w cs vs
  | [], cs, h => by simp [ofCells] at h; subst h; exact .nil
  | v :: vs, cs, h => by
    simp only [ofCells] at h
    split at h
    · rename_i h1 h2
      simp at h
      subst h
      exact .cons (ofCell_rep h1) (ofCells_rep h2)
    · simp at h
theorem ofConst_rep {S : Nat → Nat → Prop} {w : World} {bm : Nat → Option Nat} {v : Value} {p : PV} (h : ofConst v = some p) : RepB S w bm p v := by
  unfold ofConst at h
  split at h
  · rename_i cs
    cases hc : ofCells cs.toList with
    | none => simp [hc] at h
    | some ds =>
      simp [hc] at h
      subst h
      have := RepB.agg (bm := bm) (ofCells_rep (S := S) (w := w) hc)
      simpa using this
  · cases hc : ofCell v with
    | none => simp [hc] at h
    | some c => simp [hc] at h; subst h; exact .one (ofCell_rep hc)
theorem RepB.un {S : Nat → Nat → Prop} {w : World} {bm : Nat → Option Nat} {p : PV} {v : Value} (h : RepB S w bm p v) : p.un = p := by
  cases h with
  | one h => simp [PV.un, h.un]
  | _ => rfl
theorem RepV.un {S : Nat → Nat → Prop} {w : World} {bm : Nat → Option Nat} {p : PV} {v : Value} (h : RepV S w bm p v) : p.un = p := by
  cases h with
  | base h => exact h.un
  | tup h => rfl

section
variable {B : Nat} {w0 : World} {S0 S : Nat → Nat → Prop} {g : Nat → Option Occ} {bm : Nat → Option Nat} {st : ASt} {a : Act} {w : World}
theorem SimX.slot (h : SimX B w0 S0 S g bm st a w) (t : Nat) : RepS g S w bm B (.slot t) (st.get t) (a.tmps.getD t undef) := by
  unfold ASt.get
  by_cases ht : t < st.env.length
  · have ht' : t < a.tmps.size := by rw [h.size]; exact ht
    have := h.slots t st.env[t] a.tmps[t] (by simp [ht]) (by simp [ht'])
    simpa [List.getD, ht, Array.getD, ht'] using this
  · have : st.env.getD t .undef = .undef := by simp [List.getD, List.getElem?_eq_none (Nat.le_of_not_lt ht)]
    rw [this]
    exact RepS.of_V (.base (.undef _))
theorem SimX.eval (h : SimX B w0 S0 S g bm st a w) {x : Operand} {p : PV} (hr : rd st.get x = some p) : RepV S w bm p (a.eval x) := by
  unfold rd at hr
  cases x with
  | tmp t =>
    simp [rdT] at hr
    subst hr
    exact (h.slot t).un
  | const v =>
    simp only [rdT] at hr
    cases hc : ofConst v with
    | none => simp [hc] at hr
    | some q =>
      simp [hc] at hr
      subst hr
      have := ofConst_rep (S := S) (w := w) (bm := bm) hc
      rw [this.un]
      exact .base this
  | global _ => simp [rdT] at hr
  | func _ => simp [rdT] at hr
theorem SimX.evalB (h : SimX B w0 S0 S g bm st a w) {x : Operand} {p : PV} (hr : rd st.get x = some p) (hp : ∀ ps, p ≠ .tup ps) : RepB S w bm p (a.eval x) := by
  have := h.eval hr
  generalize a.eval x = v at this ⊢
  cases this with
  | base h => exact h
  | tup h => exact absurd rfl (hp _)
theorem SimX.evalC (h : SimX B w0 S0 S g bm st a w) {x : Operand} {c : Cell} (hr : rd st.get x = some (.one c)) : RepC S w c (a.eval x) := by
  have := h.evalB hr (by simp)
  generalize a.eval x = v at this ⊢
  cases this with
  | one h => exact h
theorem SimX.evalV (h : SimX B w0 S0 S g bm st a w) {x : Operand} {u : Value} (hr : rd st.get x = some (.one (.v u))) : a.eval x = u := by
  have := h.evalC hr
  generalize a.eval x = v at this
  cases this
  rfl
end

/-- the cells from an address on -/
def Lies (w : World) (b o : Nat) (vs : List Value) : Prop := ∀ (j : Nat) u, vs[j]? = some u → w.cell? ⟨b, o + j, none⟩ = some u
theorem Lies.drop {w : World} {b o : Nat} {vs : List Value} (h : Lies w b o vs) (k : Nat) : Lies w b (o + k) (vs.drop k) := by
  intro j u hu
  rw [List.getElem?_drop] at hu
  rw [Nat.add_assoc]
  exact h _ _ hu
theorem Lies.take {w : World} {b o : Nat} {vs : List Value} (h : Lies w b o vs) (k : Nat) : Lies w b o (vs.take k) := by
  intro j u hu
  rw [List.getElem?_take] at hu
  split at hu
  · exact h _ _ hu
  · simp at hu
theorem Lies.load {P : Program} {w : World} {b o : Nat} {vs : List Value} (h : Lies w b o vs) : (loadCells ⟨b, o, none⟩ vs.length).run P w = .ok vs.toArray w :=
  run_loadCells_list w ⟨b, o, none⟩ vs fun j u hu => by rw [Addr.add_lit]; exact h j u hu

/-- a variable is read -/
theorem run_loadVar_part {P : Program} {t : TypeId} {i : TI} (ht : TSpec P t i) {S : Nat → Nat → Prop} {w : World} {bm : Nat → Option Nat} {b o : Nat} {cs : List Cell} {vs : List Value} {off : Nat} {p : PV}
    (hr : RepL S w cs vs) (hl : Lies w b o vs) (hp : partC i cs off = some p) : ∃ v, (loadVar t ⟨b, o + off, none⟩).run P w = .ok v w ∧ RepB S w bm p v := by
  unfold partC at hp
  by_cases hag : i.agg = true
  · rw [if_pos hag] at hp
    split at hp
    · rename_i hle
      simp at hp
      subst hp
      have hr' := (hr.drop off).take i.size
      have hl' := (hl.drop off).take i.size
      have hlen : ((vs.drop off).take i.size).length = i.size := by
        rw [← hr'.length]
        simp
        omega
      have hrun := hl'.load (P := P)
      rw [hlen] at hrun
      refine ⟨.agg ((vs.drop off).take i.size).toArray, ?_, .agg hr'⟩
      simp [loadVar, ht.run_agg, ht.run_size, hag, hrun]
    · simp at hp
  · rw [if_neg hag] at hp
    cases hc : cs[off]? with
    | none => simp [hc] at hp
    | some c =>
      simp [hc] at hp
      subst hp
      obtain ⟨v, hv, hcv⟩ := hr.get hc
      refine ⟨v, ?_, .one hcv⟩
      simp only [Bool.not_eq_true] at hag
      simp [loadVar, ht.run_agg, hag, hl _ _ hv]

theorem run_part {P : Program} {t : TypeId} {i : TI} (ht : TSpec P t i) {S : Nat → Nat → Prop} {w : World} {bm : Nat → Option Nat} {cs : List Cell} {vs : List Value} {off : Nat} {p : PV}
    (hr : RepL S w cs vs) (hp : partC i cs off = some p) : ∃ v, (part t vs.toArray off).run P w = .ok v w ∧ RepB S w bm p v := by
  unfold partC at hp
  by_cases hag : i.agg = true
  · rw [if_pos hag] at hp
    split at hp
    · rename_i hle
      simp at hp
      subst hp
      have hr' := (hr.drop off).take i.size
      refine ⟨.agg ((vs.drop off).take i.size).toArray, ?_, .agg hr'⟩
      simp [part, ht.run_agg, ht.run_size, hag]
    · simp at hp
  · rw [if_neg hag] at hp
    cases hc : cs[off]? with
    | none => simp [hc] at hp
    | some c =>
      simp [hc] at hp
      subst hp
      obtain ⟨v, hv, hcv⟩ := hr.get hc
      refine ⟨v, ?_, .one hcv⟩
      simp only [Bool.not_eq_true] at hag
      simp [part, ht.run_agg, hag, hv]
end Go.Ab
end
section
namespace Go.Ab
open Go.RowKit
set_option linter.unusedVariables false

section
variable {P : Program} {w : World}
theorem pureOf_ok {s : Sem Value} {v : Value} (h : pureOf s = some v) : s.run P w = .ok v w := by
  unfold pureOf at h
  split at h <;> simp at h
  subst h
  rfl
theorem stringOp_ok {op : BinOp} {a b : ByteArray} {r : Value} (h : pureOf (Op.stringOp op a b) = some r) : r.oneCell' = true ∧ ∀ x n c, r ≠ .slice x n c := by
  cases op
  case add =>
    simp only [Op.stringOp] at h
    split at h
    · simp [pureOf, unsupported] at h
    · obtain rfl : _ = r := Option.some.inj h
      exact ⟨rfl, by simp⟩
  case eql => obtain rfl : _ = r := Option.some.inj h; exact ⟨rfl, by simp⟩
  case neq => obtain rfl : _ = r := Option.some.inj h; exact ⟨rfl, by simp⟩
  case lss => obtain rfl : _ = r := Option.some.inj h; exact ⟨rfl, by simp⟩
  case leq => obtain rfl : _ = r := Option.some.inj h; exact ⟨rfl, by simp⟩
  case gtr => obtain rfl : _ = r := Option.some.inj h; exact ⟨rfl, by simp⟩
  case geq => obtain rfl : _ = r := Option.some.inj h; exact ⟨rfl, by simp⟩
  all_goals simp [pureOf, Op.stringOp, stuck] at h
theorem intBin_ok {op : BinOp} {t : TypeId} {k : IntKind} {a b : Int} {r : Value} (h : intBin op k a b = some r) :
    (binOp op t (.int k a) (.int k b)).run P w = .ok r w ∧ ∃ c, r = c ∧ r.oneCell' = true ∧ ∀ x n c, r ≠ .slice x n c := by
  cases op <;> simp only [intBin] at h
  case quo => split at h <;> simp at h; subst h; rename_i hb; simp [binOp, Op.intDiv, hb, Value.oneCell']
  case and => obtain rfl : _ = r := Option.some.inj h; simp [binOp, Op.intBits, Value.oneCell']
  case or => obtain rfl : _ = r := Option.some.inj h; simp [binOp, Op.intBits, Value.oneCell']
  case xor => obtain rfl : _ = r := Option.some.inj h; simp [binOp, Op.intBits, Value.oneCell']
  case andNot => obtain rfl : _ = r := Option.some.inj h; simp [binOp, Op.intBits, Value.oneCell']
  case rem => split at h <;> simp at h; subst h; rename_i hb; simp [binOp, Op.intDiv, hb, Value.oneCell']
  all_goals (first | (simp at h; subst h; simp [binOp, Op.intArith, Op.intCmp, Value.oneCell']; done) | (simp at h; done))
theorem shiftBin_ok {op : BinOp} {t : TypeId} {k k' : IntKind} {a b : Int} {r : Value} (h : shiftBin op k a b = some r) :
    (Op.shift op k a k' b).run P w = .ok r w ∧ r.oneCell' = true ∧ ∀ x n c, r ≠ .slice x n c := by
  unfold shiftBin at h
  split at h
  · simp at h
  · rename_i hb
    cases op <;> simp at h
    all_goals (subst h; simp [Op.shift, hb, Value.oneCell'])
theorem eqGuard_int {op : BinOp} {t : TypeId} {x y : Operand} {k k' : IntKind} {a b : Int} : (eqGuard op t x y (.int k a) (.int k' b)).run P w = .ok () w := by
  unfold eqGuard
  cases op <;> rfl
theorem bin_ok {S : Nat → Nat → Prop} {op : BinOp} {t : TypeId} {ox oy : Operand} {x y : Cell} {u v r : Value} (hx : RepC S w x u) (hy : RepC S w y v) (h : bin op x y = some r) :
    (do eqGuard op t ox oy u v; binOp op t u v : Sem Value).run P w = .ok r w ∧ r.oneCell' = true ∧ ∀ x n c, r ≠ .slice x n c := by
  unfold bin at h
  split at h
  · cases hx; cases hy
    have hs := fun k' => shiftBin_ok (P := P) (w := w) (t := t) (k' := k') h
    refine ⟨?_, (hs .i64).2⟩
    simp [eqGuard_int, binOp, (hs _).1]
  · cases hx; cases hy
    have hs := fun k' => shiftBin_ok (P := P) (w := w) (t := t) (k' := k') h
    refine ⟨?_, (hs .i64).2⟩
    simp [eqGuard_int, binOp, (hs _).1]
  · cases hx; cases hy
    split at h
    · rename_i hk
      subst hk
      obtain ⟨h1, _, _, h2⟩ := intBin_ok (P := P) (w := w) (t := t) h
      refine ⟨?_, h2⟩
      simp [eqGuard_int, h1]
    · simp at h
  · cases hx; cases hy
    rename_i a b _ _ _ _
    refine ⟨?_, stringOp_ok h⟩
    have h1 := pureOf_ok (P := P) (w := w) h
    have hg : (eqGuard op t ox oy (.string a) (.string b)).run P w = .ok () w := by unfold eqGuard; cases op <;> rfl
    have hb : binOp op t (.string a) (.string b) = Op.stringOp op a b := by cases op <;> rfl
    simp [hg, hb, h1]
  · simp at h
end

theorem idxOf_spec {S : Nat → Nat → Prop} {w : World} {bm : Nat → Option Nat} {q : PV} {n : Nat} {v : Value} (h : idxOf q = some n) (hv : RepV S w bm q v) : ∃ k, v = .int k n := by
  unfold idxOf at h
  split at h
  · split at h <;> simp at h
    rename_i k m h0
    subst h
    cases hv with
    | base hv => cases hv with
      | one hv => cases hv; exact ⟨k, by rw [Int.toNat_of_nonneg h0]⟩
  · simp at h

theorem fill_ok {S : Nat → Nat → Prop} {w : World} {place : Nat → Option (Nat × Nat)} : ∀ {ps : List (Nat × PV)} {vs : List (Nat × Value)} {cells : List Cell} {cv : List Value} {r : List Cell},
    All2 (fun (p : Nat × PV) (v : Nat × Value) => p.1 = v.1 ∧ ∀ cs, p.2.cells = some cs → RepL S w cs v.2.cells.toList) ps vs → RepL S w cells cv → fillC place cells ps = some r →
    ∃ rv : List Value, Instr.fill place cv.toArray vs = some rv.toArray ∧ RepL S w r rv := by
  intro ps
  induction ps with
  | nil =>
    intro vs cells cv r h hc hf
    cases h
    simp [fillC] at hf
    subst hf
    exact ⟨cv, rfl, hc⟩
  | cons p ps ih =>
    intro vs cells cv r h hc hf
    cases h with
    | @cons _ v _ vs hp hps =>
      obtain ⟨i, p⟩ := p
      obtain ⟨j, v⟩ := v
      obtain ⟨rfl, hp⟩ := hp
      simp only [fillC] at hf
      split at hf
      · rename_i off size ds hpl hds
        split at hf
        · rename_i hle
          obtain ⟨h1, h2⟩ := hle
          have hv := hp ds hds
          simp only at hv hpl
          have hvl : v.cells.size = size := by rw [← Array.length_toList, ← hv.length, h1]
          have hcl := hc.length
          have hnew : RepL S w (putCells cells off ds) (cv.take off ++ v.cells.toList ++ cv.drop (off + v.cells.size)) := by
            unfold putCells
            rw [show v.cells.size = ds.length by rw [hvl, h1]]
            exact ((hc.take _).append hv).append (hc.drop _)
          obtain ⟨rv, hrv, hr⟩ := ih hps hnew hf
          refine ⟨rv, ?_, hr⟩
          simp only [Instr.fill, hpl]
          rw [if_neg (by simp [hvl]; omega)]
          rw [← hrv]
          congr 1
          apply Array.ext'
          have key : ∀ (l : List Value) (k : Nat) (arr : Array Value), off + k + l.length ≤ arr.size →
              ((l.zipIdx k).foldl (fun (cs : Array Value) (x : Value × Nat) => cs.setIfInBounds (off + x.2) x.1) arr).toList = arr.toList.take (off + k) ++ l ++ arr.toList.drop (off + k + l.length) := by
            intro l
            induction l with
            | nil => intro k arr _; simp
            | cons x l ihl =>
              intro k arr hk
              simp only [List.length_cons] at hk
              rw [List.zipIdx_cons, List.foldl_cons, ihl (k + 1) _ (by simp; omega)]
              simp only [Array.toList_setIfInBounds, List.length_cons]
              have e := list_seg_step arr.toList (off + k) x l (by simp; omega)
              simpa [Nat.add_assoc] using e
          have := key v.cells.toList 0 cv.toArray (by simp; omega)
          simp only [Nat.add_zero] at this
          rw [← Array.foldl_toList, Array.toList_zipIdx, this]
          simp
        · simp at hf
      · simp at hf

section
variable {P : Program} {tt : TT} {T : Tab} {B : Nat} {w0 : World} {S0 S : Nat → Nat → Prop} {g : Nat → Option Occ} {bm : Nat → Option Nat} {st : ASt} {a : Act} {w : World}
theorem rdParts_ok (h : SimX B w0 S0 S g bm st a w) : ∀ {l : List (Nat × Operand)} {ps : List (Nat × PV)}, rdParts st.get l = some ps →
    All2 (fun (p : Nat × PV) (v : Nat × Value) => p.1 = v.1 ∧ ∀ cs, p.2.cells = some cs → RepL S w cs v.2.cells.toList) ps (l.map fun x => (x.1, a.eval x.2))
  | [], ps, hr => by simp [rdParts] at hr; subst hr; exact .nil
  | (i, x) :: l, ps, hr => by
    simp only [rdParts] at hr
    split at hr
    · rename_i p ps' hp hps
      simp at hr
      subst hr
      refine .cons ⟨rfl, fun cs hcs => ?_⟩ (rdParts_ok h hps)
      simp only at hcs ⊢
      cases p with
      | one c =>
        simp [PV.cells] at hcs
        subst hcs
        have hc := h.evalC hp
        have h1 := hc.one
        generalize a.eval x = v at hc h1 ⊢
        have : v.cells.toList = [v] := by cases v <;> simp_all [Value.cells, Value.oneCell']
        rw [this]
        exact .cons hc .nil
      | agg ds =>
        simp [PV.cells] at hcs
        subst hcs
        have hb := h.evalB hp (by simp)
        generalize a.eval x = v at hb ⊢
        cases hb with
        | agg hb => simpa [Value.cells] using hb
      | _ => simp [PV.cells] at hcs
    · simp at hr
theorem rds_ok (h : SimX B w0 S0 S g bm st a w) : ∀ {l : List Operand} {ps : List PV}, rds st.get l = some ps → All2 (RepV S w bm) ps (l.map a.eval)
  | [], ps, hr => by simp [rds] at hr; subst hr; exact .nil
  | x :: l, ps, hr => by
    simp only [rds] at hr
    split at hr
    · rename_i p ps' hp hps
      simp at hr
      subst hr
      exact .cons (h.eval hp) (rds_ok h hps)
    · simp at hr
theorem szOf_spec (htt : ∀ t i, tt t = some i → tinfo P t = some i) {t : TypeId} {s : Nat} (h : szOf tt t = some s) : ∃ i, TSpec P t i ∧ i.size = s := by
  unfold szOf at h
  split at h
  · rename_i i hi
    simp at h
    exact ⟨i, tinfo_spec (htt _ _ hi), h⟩
  · simp at h
end
end Go.Ab
end
section
namespace Go.Ab
open Go.RowKit
set_option linter.unusedVariables false

def valEq : Value → Value → Option Bool
  | .int k a, .int k' b => if k = k' then some (a == b) else none
  | _, _ => none
def valsEq : List Value → List Value → Option Bool
  | [], [] => some true
  | x :: xs, y :: ys => match valEq x y, valsEq xs ys with | some a, some b => some (a && b) | _, _ => none
  | _, _ => none
theorem cellEq_val {S : Nat → Nat → Prop} {w : World} {c d : Cell} {x y : Value} {b : Bool} (hx : RepC S w c x) (hy : RepC S w d y) (h : cellEq c d = some b) : valEq x y = some b := by
  cases hx with
  | v x h1 h2 =>
    cases hy with
    | v y h3 h4 => cases x <;> cases y <;> simp_all [cellEq, valEq]
    | nil a => cases x <;> simp [cellEq] at h
    | slice => cases x <;> simp [cellEq] at h
  | nil a => simp [cellEq] at h
  | slice => simp [cellEq] at h
theorem cellsEq_vals {S : Nat → Nat → Prop} {w : World} : ∀ {cs ds : List Cell} {xs ys : List Value} {b : Bool}, RepL S w cs xs → RepL S w ds ys → cellsEq cs ds = some b → valsEq xs ys = some b
  | [], [], xs, ys, b, hx, hy, h => by cases hx; cases hy; exact h
  | [], _ :: _, xs, ys, b, hx, hy, h => by simp [cellsEq] at h
  | _ :: _, [], xs, ys, b, hx, hy, h => by simp [cellsEq] at h
  | c :: cs, d :: ds, xs, ys, b, hx, hy, h => by
    cases hx with
    | cons hx hxs => cases hy with
      | cons hy hys =>
        simp only [cellsEq] at h
        split at h <;> simp at h
        rename_i b1 b2 h1 h2
        subst h
        simp [valsEq, cellEq_val hx hy h1, cellsEq_vals hxs hys h2]
theorem valsEq_split : ∀ {xs ys : List Value} {b : Bool} (n : Nat), valsEq xs ys = some b → ∃ b1 b2, valsEq (xs.take n) (ys.take n) = some b1 ∧ valsEq (xs.drop n) (ys.drop n) = some b2 ∧ b = (b1 && b2)
  | [], [], b, n, h => by simp [valsEq] at h; subst h; exact ⟨true, true, by simp [valsEq], by simp [valsEq], rfl⟩
  | [], _ :: _, b, n, h => by simp [valsEq] at h
  | _ :: _, [], b, n, h => by simp [valsEq] at h
  | x :: xs, y :: ys, b, 0, h => ⟨true, b, by simp [valsEq], h, by simp⟩
  | x :: xs, y :: ys, b, n + 1, h => by
    simp only [valsEq] at h
    split at h <;> simp at h
    rename_i a1 a2 h1 h2
    subst h
    obtain ⟨b1, b2, e1, e2, rfl⟩ := valsEq_split n h2
    exact ⟨a1 && b1, b2, by simp [valsEq, h1, e1], by simpa using e2, by simp [Bool.and_assoc]⟩
theorem valsEq_len : ∀ {xs ys : List Value} {b : Bool}, valsEq xs ys = some b → xs.length = ys.length
  | [], [], _, _ => rfl
  | [], _ :: _, b, h => by simp [valsEq] at h
  | _ :: _, [], b, h => by simp [valsEq] at h
  | x :: xs, y :: ys, b, h => by
    simp only [valsEq] at h
    split at h <;> simp at h
    rename_i h2
    simp [valsEq_len h2]

def aggTy (P : Program) (t : TypeId) : Bool := match P.underlying t with | some (.struct _) | some (.array ..) => true | _ => false
/-- the value that some cells are -/
def mkV (P : Program) (t : TypeId) (xs : List Value) : Value := if aggTy P t then .agg xs.toArray else xs.getD 0 undef

theorem run_part_mk {P : Program} {w : World} {t : TypeId} {xs : List Value} {off : Nat} (hi : (P.info? t).isSome = true) (hu : (P.underlying t).isSome = true) (hle : off + P.cellsOf t ≤ xs.length) (h1 : aggTy P t = false → P.cellsOf t = 1) :
    (part t xs.toArray off).run P w = .ok (mkV P t ((xs.drop off).take (P.cellsOf t))) w := by
  obtain ⟨i, hi⟩ := Option.isSome_iff_exists.1 hi
  obtain ⟨d, hu⟩ := Option.isSome_iff_exists.1 hu
  have hs : P.cellsOf t = i.size := by simp [Program.cellsOf, hi]
  have hag : (isAgg t).run P w = .ok (aggTy P t) w := by
    unfold aggTy
    cases d <;> simp [isAgg, run_underlying hu, hu]
  have hsz : (sizeOf t).run P w = .ok i.size w := by simp [sizeOf, typeInfo, hi]
  unfold mkV
  cases ha : aggTy P t with
  | true => simp [part, hag, ha, hsz, hs]
  | false =>
    have hc := h1 ha
    have hlt : off < xs.length := by omega
    rw [hc]
    simp [part, hag, ha, hlt, List.take_one, List.head?_drop]

theorem flatFs_spec {P : Program} {f : TypeId → Bool} {d : Field} {fs : List Field} {off n : Nat} (h : flatFs f P (d :: fs) off n = true) : d.name ≠ "_" ∧ d.offset = off ∧ f d.type = true ∧ flatFs f P fs (off + P.cellsOf d.type) n = true := by
  simp only [flatFs, Bool.and_eq_true, bne_iff_ne, beq_iff_eq] at h
  exact ⟨h.1.1.1, h.1.1.2, h.1.2, h.2⟩
theorem flatFs_le {P : Program} {f : TypeId → Bool} : ∀ {fs : List Field} {off n : Nat}, flatFs f P fs off n = true → off ≤ n
  | [], off, n, h => by simp [flatFs] at h; omega
  | d :: fs, off, n, h => by have := flatFs_le (flatFs_spec h).2.2.2; omega
theorem flat_info {P : Program} {d : Nat} {t : TypeId} (h : flatTy P d t = true) : (P.info? t).isSome = true ∧ (P.underlying t).isSome = true ∧ (aggTy P t = false → P.cellsOf t = 1) := by
  cases d with
  | zero => simp [flatTy] at h
  | succ d =>
    simp only [flatTy] at h
    cases hu : P.underlying t with
    | none => rw [hu] at h; simp at h
    | some x =>
      obtain ⟨i, hi⟩ := info_of_underlying hu
      refine ⟨by simp [hi], rfl, fun ha => ?_⟩
      rw [hu] at h
      unfold aggTy at ha
      rw [hu] at ha
      cases x <;> simp_all
theorem equalIn_flat {P : Program} : ∀ (d : Nat) (t : TypeId) (xs ys : List Value) (b : Bool) (D : Nat) (w : World), flatTy P d t = true → d ≤ D → xs.length = P.cellsOf t → valsEq xs ys = some b →
    (Op.equalIn D t (mkV P t xs) (mkV P t ys)).run P w = .ok b w := by
  intro d
  induction d with
  | zero => intro t xs ys b D w h; simp [flatTy] at h
  | succ d ih =>
    intro t xs ys b D w h hD hlen hv
    obtain ⟨D, rfl⟩ : ∃ D', D = D' + 1 := ⟨D - 1, by omega⟩
    have hlen2 := valsEq_len hv
    simp only [flatTy] at h
    have hscal : P.cellsOf t = 1 → ∃ x y, xs = [x] ∧ ys = [y] ∧ valEq x y = some b := by
      intro h1
      rw [h1] at hlen
      match xs, ys, hlen, hlen2, hv with
      | [x], [y], _, _, hv =>
        simp only [valsEq] at hv
        split at hv <;> simp at hv
        rename_i a1 a2 e1 e2
        have : a2 = true := by simpa [valsEq] using e2.symm
        subst this
        exact ⟨x, y, rfl, rfl, by rw [e1, ← hv]; simp⟩
    cases hu : P.underlying t with
    | none => rw [hu] at h; simp at h
    | some td =>
      rw [hu] at h
      obtain ⟨i, hi⟩ := info_of_underlying hu
      cases td with
      | int k =>
        simp only [beq_iff_eq] at h
        obtain ⟨x, y, rfl, rfl, he⟩ := hscal h
        have ha : aggTy P t = false := by simp [aggTy, hu]
        simp only [mkV, ha]
        unfold valEq at he
        split at he
        · split at he <;> simp at he
          rename_i hk
          subst hk he
          simp [Op.equalIn, run_underlying hu]
        · simp at he
      | array n e =>
        simp only [Bool.and_eq_true, beq_iff_eq] at h
        obtain ⟨he, hsz⟩ := h
        obtain ⟨f1, f2, f3⟩ := flat_info he
        obtain ⟨ei, hei⟩ := Option.isSome_iff_exists.1 f1
        have ha : aggTy P t = true := by simp [aggTy, hu]
        simp only [mkV, ha, if_true]
        rw [run_equalIn_array w D _ _ hu hei]
        have key : ∀ (m k : Nat) (b : Bool), k + m = n → valsEq (xs.drop (k * P.cellsOf e)) (ys.drop (k * P.cellsOf e)) = some b → (Op.eqItems D e (P.cellsOf e) xs.toArray ys.toArray (List.range' k m)).run P w = .ok b w := by
          intro m
          induction m with
          | zero =>
            intro k b hk hb
            have : xs.length ≤ k * P.cellsOf e := by rw [hlen, hsz, ← hk]; simp
            rw [List.drop_of_length_le this, List.drop_of_length_le (by omega)] at hb
            simp [valsEq] at hb
            simp [Op.eqItems, hb]
          | succ m ihm =>
            intro k b hk hb
            have hle : k * P.cellsOf e + P.cellsOf e ≤ xs.length := by
              rw [hlen, hsz, ← hk]
              have : (k + 1) * P.cellsOf e ≤ (k + (m + 1)) * P.cellsOf e := Nat.mul_le_mul_right _ (by omega)
              rw [Nat.add_mul] at this
              omega
            obtain ⟨b1, b2, e1, e2, rfl⟩ := valsEq_split (P.cellsOf e) hb
            rw [List.drop_drop, List.drop_drop] at e2
            have e2' : valsEq (xs.drop ((k + 1) * P.cellsOf e)) (ys.drop ((k + 1) * P.cellsOf e)) = some b2 := by
              rw [Nat.add_mul, Nat.one_mul]; exact e2
            have r1 := ih e _ _ b1 D w he (by omega) (by simp; omega) e1
            simp only [List.range'_succ, Op.eqItems, Sem.run_bind, run_part_mk f1 f2 hle f3, run_part_mk f1 f2 (show k * P.cellsOf e + P.cellsOf e ≤ ys.length by omega) f3, Result.andThen_ok, r1]
            cases b1 with
            | false => simp
            | true => simpa using ihm (k + 1) b2 (by omega) e2'
        have := key n 0 b (by omega) (by simpa using hv)
        rw [List.range_eq_range']
        exact this
      | struct fs =>
        simp only [Bool.and_eq_true, Bool.not_eq_true'] at h
        obtain ⟨hst, hfs⟩ := h
        have ha : aggTy P t = true := by simp [aggTy, hu]
        simp only [mkV, ha, if_true]
        have hfo : P.fieldsOf t = fs := by simp [Program.fieldsOf, hu]
        rw [run_equalIn_struct w D t _ _ (by rw [hfo]; exact hu) hst, hfo]
        have key : ∀ (l : List Field) (off : Nat) (b : Bool), flatFs (flatTy P d) P l off (P.cellsOf t) = true → valsEq (xs.drop off) (ys.drop off) = some b → (Op.eqFields D xs.toArray ys.toArray l).run P w = .ok b w := by
          intro l
          induction l with
          | nil =>
            intro off b hf hb
            simp [flatFs] at hf
            rw [List.drop_of_length_le (by omega), List.drop_of_length_le (by omega)] at hb
            simp [valsEq] at hb
            simp [Op.eqFields, hb]
          | cons f l ihl =>
            intro off b hf hb
            obtain ⟨g1, g2, g3, g4⟩ := flatFs_spec hf
            have hle := flatFs_le g4
            obtain ⟨f1, f2, f3⟩ := flat_info g3
            obtain ⟨b1, b2, e1, e2, rfl⟩ := valsEq_split (P.cellsOf f.type) hb
            rw [List.drop_drop, List.drop_drop] at e2
            have r1 := ih f.type _ _ b1 D w g3 (by omega) (by simp; omega) e1
            subst g2
            simp only [Op.eqFields, g1, ne_eq, not_false_eq_true, if_true, Sem.run_bind, run_part_mk f1 f2 (show f.offset + P.cellsOf f.type ≤ xs.length by omega) f3, run_part_mk f1 f2 (show f.offset + P.cellsOf f.type ≤ ys.length by omega) f3, Result.andThen_ok, r1]
            cases b1 with
            | false => simp
            | true => simpa using ihl _ b2 g4 e2
        exact key fs.toList 0 b hfs (by simpa using hv)
      | _ => simp at h
end Go.Ab
end
section
namespace Go.Ab
open Go.RowKit
set_option linter.unusedVariables false
section
variable {P : Program} {tt : TT} {T : Tab} {B : Nat} {w0 : World} {S0 S : Nat → Nat → Prop} {g : Nat → Option Occ} {bm : Nat → Option Nat} {st : ASt} {a : Act} {w : World}

def Val (P : Program) (S : Nat → Nat → Prop) (bm : Nat → Option Nat) (w : World) (x : Sem Value) (p : PV) : Prop := ∃ v, x.run P w = .ok v w ∧ RepV S w bm p v

theorem RepC.unrow' {own : Own} {els : List (List Cell)} {v : Value} (h : RepC S w (.slice own els) v) (hne : els ≠ []) : ∃ b o c, ∃ (_ : Nat) (_ : Nat), v = .slice (some ⟨b, o, none⟩) els.length c ∧ True := by
  cases h with
  | nil a => exact absurd rfl hne
  | slice _ a c e b o m hc hx he h0 ha hm hr => exact ⟨b, o, c, 0, 0, by rw [ha hne], trivial⟩
theorem pick_ok (h : SimX B w0 S0 S g bm st a w) {c x y : Operand} {p : PV} (hp : pureOp tt T st.get (.pick c x y) = some p) :
    Val P S bm w (do pure (if ← asBool (a.eval c) then a.eval x else a.eval y)) p := by
  simp only [pureOp] at hp
  split at hp
  · rename_i t hc
    have := h.evalV hc
    cases t with
    | true => exact ⟨a.eval x, by simp [this, asBool], h.eval (by simpa using hp)⟩
    | false => exact ⟨a.eval y, by simp [this, asBool], h.eval (by simpa using hp)⟩
  · simp at hp
theorem eqIn_slice (d : Nat) {t e : TypeId} {b : Addr} {l c n m : Nat} (hu : P.underlying t = some (.slice e)) : (Op.equalIn (d + 1) t (.slice (some b) l c) (.slice none n m)).run P w = .ok false w := by
  simp [Op.equalIn, run_underlying hu]
theorem eqRes_ok {op : BinOp} {t : TypeId} {u v : Value} {b : Bool} {p : PV} (hp : eqRes op b = some p) (h : (Op.equal t u v).run P w = .ok b w) (hb : ∀ op, op = .eql ∨ op = .neq → binOp op t u v = (if op = .eql then (do pure (.bool (← Op.equal t u v))) else (do pure (.bool (!(← Op.equal t u v)))))) :
    ∃ r, (binOp op t u v).run P w = .ok r w ∧ RepV S w bm p r := by
  unfold eqRes at hp
  split at hp <;> simp at hp
  · subst hp
    rw [hb .eql (.inl rfl)]
    exact ⟨.bool b, by simp [h], .base (.one (.v _ rfl (by simp)))⟩
  · subst hp
    rw [hb .neq (.inr rfl)]
    exact ⟨.bool !b, by simp [h], .base (.one (.v _ rfl (by simp)))⟩
theorem bin_op_ok (htt : ∀ t i, tt t = some i → tinfo P t = some i) (h : SimX B w0 S0 S g bm st a w) {op : BinOp} {t t' : TypeId} {x y : Operand} {p : PV} (hp : pureOp tt T st.get (.binOp op t x y t') = some p) :
    Val P S bm w (do eqGuard op t x y (a.eval x) (a.eval y); binOp op t (a.eval x) (a.eval y)) p := by
  simp only [pureOp] at hp
  split at hp
  · rename_i cx cy hx hy
    split at hp
    · rename_i u v
      split at hp
      · rename_i i hi
        split at hp
        · rename_i hk
          have hu : P.underlying t = some .bool := by
            obtain ⟨info, d, z, h1, h2, h3, h4, h5, h6, h7⟩ := (tinfo_spec (htt _ _ hi)).ex
            rw [hk] at h5
            cases d <;> simp [tkind] at h5
            exact h2
          rw [h.evalV hx, h.evalV hy]
          have he : (Op.equal t (.bool u) (.bool v)).run P w = .ok (u == v) w := by
            exact run_equalIn_bool w 9999 t u v hu
          obtain ⟨r, h1, h2⟩ := eqRes_ok (S := S) (bm := bm) hp he (by rintro op (rfl | rfl) <;> rfl)
          have hg : (eqGuard op t x y (.bool u) (.bool v)).run P w = .ok () w := by unfold eqGuard; cases op <;> rfl
          exact ⟨r, by simp [hg, h1], h2⟩
        · simp at hp
      · simp at hp
    · rename_i o1 els o2 els2
      split at hp
      · rename_i n c i hi
        split at hp
        · rename_i e hk
          split at hp
          · simp at hp
          · rename_i hne
            have hu := (tinfo_spec (htt _ _ hi)).slice hk
            obtain ⟨b, off, c', e', row, hv, _⟩ := (h.evalC hx).unrow' hne
            have hey : a.eval (.const (.slice none n c)) = .slice none n c := rfl
            rw [hv, hey]
            have he : (Op.equal t (.slice (some ⟨b, off, none⟩) els.length c') (.slice none n c)).run P w = .ok false w := by
              exact eqIn_slice 9999 hu
            obtain ⟨r, h1, h2⟩ := eqRes_ok (S := S) (bm := bm) hp he (by rintro op (rfl | rfl) <;> rfl)
            have hg : (eqGuard op t x (.const (.slice none n c)) (.slice (some ⟨b, off, none⟩) els.length c') (.slice none n c)).run P w = .ok () w := by unfold eqGuard; cases op <;> rfl
            exact ⟨r, by simp [hg, h1], h2⟩
        · simp at hp
      · simp at hp
    · rename_i cx' cy' _ _
      split at hp <;> simp at hp
      rename_i r hb
      subst hp
      obtain ⟨h1, h2, h3⟩ := bin_ok (P := P) (t := t) (ox := x) (oy := y) (h.evalC hx) (h.evalC hy) hb
      exact ⟨r, h1, .base (.one (.v r h2 h3))⟩
  · rename_i cs ds hx hy
    split at hp
    · rename_i i hi
      split at hp
      · rename_i hc
        obtain ⟨hfl, hag, hl1, hl2⟩ := hc
        split at hp
        · rename_i b hb
          have hts := tinfo_spec (htt _ _ hi)
          obtain ⟨info, d, z, h1, h2, h3, h4, h5, h6, h7, h8⟩ := hts.ex
          rw [h8] at hfl
          simp at hfl
          have hcells : P.cellsOf t = i.size := by simp [Program.cellsOf, h1, h4]
          have haggT : aggTy P t = true := by
            unfold aggTy
            unfold TI.agg at hag
            rw [h2]
            rw [← h5] at hag
            cases d <;> simp [tkind] at hag ⊢
          have hX := h.evalB hx (by simp)
          have hY := h.evalB hy (by simp)
          generalize a.eval x = vx at hX ⊢
          generalize a.eval y = vy at hY ⊢
          cases hX with
          | agg hX => cases hY with
            | agg hY =>
              rename_i xs ys
              have hv := cellsEq_vals hX hY hb
              have he := equalIn_flat (P := P) 20 t xs ys b 10000 w hfl.1 (by omega) (by rw [← All2.length hX, hl1, hcells]) hv
              unfold mkV at he
              rw [if_pos haggT, if_pos haggT] at he
              have he' : (Op.equal t (.agg xs.toArray) (.agg ys.toArray)).run P w = .ok b w := he
              obtain ⟨r, h1, h2⟩ := eqRes_ok (S := S) (bm := bm) hp he' (by rintro op (rfl | rfl) <;> rfl)
              have hg := run_eqGuard_agg (P := P) w op t x y xs.toArray ys.toArray hfl.2
              exact ⟨r, by simp [hg, h1], h2⟩
        · simp at hp
      · simp at hp
    · simp at hp
  · simp at hp
theorem unOp_ok (h : SimX B w0 S0 S g bm st a w) {op : UnOp} {t : TypeId} {x : Operand} {p : PV} (hp : pureOp tt T st.get (.unOp op t x) = some p) :
    Val P S bm w (Op.unary op (a.eval x)) p := by
  cases op <;> simp only [pureOp] at hp
  · split at hp <;> simp at hp
    rename_i k n hx
    subst hp
    rw [h.evalV hx]
    exact ⟨.int k (k.wrap (0 - n)), by simp [Op.unary, Op.intArith], .base (.one (by simpa using RepC.v _ rfl (by simp)))⟩
  · simp at hp
  · split at hp <;> simp at hp
    rename_i b hx
    subst hp
    rw [h.evalV hx]
    exact ⟨.bool !b, by simp [Op.unary], .base (.one (.v _ rfl (by simp)))⟩
  · simp at hp
theorem convert_ok (htt : ∀ t i, tt t = some i → tinfo P t = some i) (h : SimX B w0 S0 S g bm st a w) {s d : TypeId} {x : Operand} {p : PV} (hp : pureOp tt T st.get (.convert s d x) = some p) :
    Val P S bm w (convert s d (a.eval x)) p := by
  simp only [pureOp] at hp
  split at hp
  · rename_i i j k n hi hj hx
    split at hp <;> simp at hp
    rename_i k1 k2 hk1 hk2
    subst hp
    rw [h.evalV hx]
    have h1 := (tinfo_spec (htt _ _ hi)).int hk1
    have h2 := (tinfo_spec (htt _ _ hj)).int hk2
    exact ⟨.int k2 (k2.wrap n), by simp [convert, run_underlying h1, run_underlying h2, Conv.intToInt], .base (.one (.v _ rfl (by simp)))⟩
  · simp at hp
theorem refs {S : Nat → Nat → Prop} {w : World} {bm : Nat → Option Nat} {cs : List Cell} {b o : Nat} {vs : List Value} (h1 : RepL S w cs vs) (h2 : ∀ j, j < vs.length → S b (o + j)) (h3 : ∀ (j : Nat) u, vs[j]? = some u → w.cell? ⟨b, o + j, none⟩ = some u) (k : Nat) :
    RepB S w bm (.ref (cs.drop k)) (.pointer (some ⟨b, o + k, none⟩)) := by
  refine .ref b (o + k) (vs.drop k) (h1.drop k) (fun j hj => ?_) (fun j u hu => ?_)
  · rw [Nat.add_assoc]; exact h2 _ (by simp at hj; omega)
  · rw [Nat.add_assoc]; rw [List.getElem?_drop] at hu; exact h3 _ _ hu
theorem fieldAddr_ok (htt : ∀ t i, tt t = some i → tinfo P t = some i) (h : SimX B w0 S0 S g bm st a w) {s : TypeId} {x : Operand} {f : Nat} {p : PV} (hp : pureOp tt T st.get (.fieldAddr s x f) = some p) :
    Val P S bm w (Instr.fieldAt s (a.eval x) f) p := by
  simp only [pureOp] at hp
  split at hp
  · rename_i i q hi hx
    split at hp
    · rename_i off ft hf
      split at hp
      · rename_i n hs
        unfold fieldOf at hf
        split at hf
        · rename_i fs hk
          obtain ⟨fields, hu, rfl⟩ := (tinfo_spec (htt _ _ hi)).struct hk
          simp at hf
          obtain ⟨fd, hfd, rfl, rfl⟩ := hf
          obtain ⟨fi, hfi, hsz⟩ := szOf_spec htt hs
          have hrun : ∀ b o, (Instr.fieldAt s (.pointer (some ⟨b, o, none⟩)) f).run P w = .ok (.pointer (some ⟨b, o + fd.offset, none⟩)) w := by
            intro b o
            simp [Instr.fieldAt, run_underlying hu, hfd, Instr.sureAddr, fieldPlace, hfi.run_size, hsz, Addr.add_lit]
          have hb := h.evalB hx (by rintro ps rfl; simp at hp)
          generalize a.eval x = v at hb ⊢
          split at hp <;> simp at hp
          · subst hp
            cases hb with
            | ref b o vs h1 h2 h3 => exact ⟨_, hrun b o, .base (refs h1 h2 h3 _)⟩
          · subst hp
            cases hb with
            | ptr id o k hk => exact ⟨_, hrun _ _, .base (.ptr _ _ _ hk)⟩
        · simp at hf
      · simp at hp
    · simp at hp
  · simp at hp
theorem field_ok (htt : ∀ t i, tt t = some i → tinfo P t = some i) (h : SimX B w0 S0 S g bm st a w) {s : TypeId} {x : Operand} {f : Nat} {p : PV} (hp : pureOp tt T st.get (.field s x f) = some p) :
    Val P S bm w (Instr.field s (a.eval x) f) p := by
  simp only [pureOp] at hp
  split at hp
  · rename_i i cs hi hx
    split at hp
    · rename_i off ft hf
      split at hp
      · rename_i j hj
        unfold fieldOf at hf
        split at hf
        · rename_i fs hk
          obtain ⟨fields, hu, rfl⟩ := (tinfo_spec (htt _ _ hi)).struct hk
          simp at hf
          obtain ⟨fd, hfd, rfl, rfl⟩ := hf
          have hb := h.evalB hx (by simp)
          generalize a.eval x = v at hb ⊢
          cases hb with
          | agg hr =>
            obtain ⟨v, h1, h2⟩ := run_part (P := P) (bm := bm) (tinfo_spec (htt _ _ hj)) hr hp
            exact ⟨v, by simp [Instr.field, run_underlying hu, hfd, asAgg, h1], .base h2⟩
        · simp at hf
      · simp at hp
    · simp at hp
  · simp at hp
theorem getElem_pos {α : Type} {l : List α} {n : Nat} {x : α} (h : l[n]? = some x) : n < l.length := (List.getElem?_eq_some_iff.1 h).1
theorem slice_elem {S : Nat → Nat → Prop} {w : World} {bm : Nat → Option Nat} {o : Own} {els : List (List Cell)} {v : Value} (h : RepC S w (.slice o els) v) {n : Nat} {l : List Cell} (hl : els[n]? = some l) :
    ∃ b off c, v = .slice (some ⟨b, off, none⟩) els.length c ∧ RepB S w bm (.ref l) (.pointer (some ⟨b, off + n * l.length, none⟩)) := by
  cases h with
  | nil a => simp at hl
  | slice _ a c e b o m hc hx he h0 ha hm hr =>
    have hne : els ≠ [] := by rintro rfl; simp at hl
    have hle : l.length = e := he l (List.mem_of_getElem? hl)
    refine ⟨b, o, c, by rw [ha hne], ?_⟩
    subst hle
    refine .ref b _ ((List.range l.length).map (m n)) ?_ (fun j hj => (hm n l hl j (by simpa using hj)).1) (fun j u hu => ?_)
    · refine All2.of_get (by simp) fun i x y hx hy => ?_
      have hi := getElem_pos hx
      simp [hi] at hy
      subst hy
      exact hr n l hl i x hx
    · have hj := getElem_pos hu
      simp at hj
      simp [hj] at hu
      subst hu
      exact (hm n l hl j hj).2
theorem indexAddr_ok (htt : ∀ t i, tt t = some i → tinfo P t = some i) (h : SimX B w0 S0 S g bm st a w) {t : TypeId} {x ix : Operand} {p : PV} (hp : pureOp tt T st.get (.indexAddr t x ix) = some p) :
    Val P S bm w (Instr.indexAt t (a.eval x) (a.eval ix)) p := by
  simp only [pureOp] at hp
  split at hp
  · rename_i i q r hi hx hix
    have hix' := h.eval hix
    have hx' := h.eval hx
    generalize a.eval ix = vi at hix' ⊢
    generalize a.eval x = vx at hx' ⊢
    split at hp
    · rename_i e _ els n hk hn
      split at hp
      · rename_i l s hl hs
        split at hp <;> simp at hp
        rename_i hls
        subst hp
        obtain ⟨k, rfl⟩ := idxOf_spec hn hix'
        obtain ⟨ei, hei, hes⟩ := szOf_spec htt hs
        have hu := (tinfo_spec (htt _ _ hi)).slice hk
        cases hx' with
        | base hx' => cases hx' with
          | one hx' =>
            obtain ⟨b, off, c, rfl, hb⟩ := slice_elem (bm := bm) hx' hl
            have hlt := getElem_pos hl
            refine ⟨_, ?_, .base hb⟩
            have : ¬ els.length ≤ n := by omega
            simp [Instr.indexAt, run_underlying hu, asIntOf, this, hei.run_size, hes, hls, Addr.add_lit]
      · simp at hp
    · rename_i m e cs n hk hn
      split at hp
      · rename_i s hs
        split at hp <;> simp at hp
        rename_i hlt
        subst hp
        obtain ⟨k, rfl⟩ := idxOf_spec hn hix'
        obtain ⟨ei, hei, hes⟩ := szOf_spec htt hs
        have hu := (tinfo_spec (htt _ _ hi)).array hk
        cases hx' with
        | base hx' => cases hx' with
          | ref b o vs h1 h2 h3 =>
            refine ⟨_, ?_, .base (refs h1 h2 h3 _)⟩
            have : ¬ m ≤ n := by omega
            simp [Instr.indexAt, run_underlying hu, asIntOf, Instr.sureAddr, this, hei.run_size, hes, Addr.add_lit]
      · simp at hp
    · rename_i m e id o n hk hn
      split at hp
      · rename_i s hs
        split at hp <;> simp at hp
        rename_i hlt
        subst hp
        obtain ⟨k, rfl⟩ := idxOf_spec hn hix'
        obtain ⟨ei, hei, hes⟩ := szOf_spec htt hs
        have hu := (tinfo_spec (htt _ _ hi)).array hk
        cases hx' with
        | base hx' => cases hx' with
          | ptr id o k hk =>
            refine ⟨_, ?_, .base (.ptr _ _ _ hk)⟩
            have : ¬ m ≤ n := by omega
            simp [Instr.indexAt, run_underlying hu, asIntOf, Instr.sureAddr, this, hei.run_size, hes, Addr.add_lit]
      · simp at hp
    · simp at hp
  · simp at hp
theorem index_ok (htt : ∀ t i, tt t = some i → tinfo P t = some i) (h : SimX B w0 S0 S g bm st a w) {t : TypeId} {x ix : Operand} {p : PV} (hp : pureOp tt T st.get (.index t x ix) = some p) :
    Val P S bm w (Instr.index t (a.eval x) (a.eval ix)) p := by
  simp only [pureOp] at hp
  split at hp
  · rename_i i cs q hi hx hix
    have hix' := h.eval hix
    have hx' := h.evalB hx (by simp)
    generalize a.eval ix = vi at hix' ⊢
    generalize a.eval x = vx at hx' ⊢
    split at hp
    · rename_i m e n hk hn
      split at hp
      · rename_i j hj
        split at hp
        · rename_i hlt
          obtain ⟨k, rfl⟩ := idxOf_spec hn hix'
          have hu := (tinfo_spec (htt _ _ hi)).array hk
          cases hx' with
          | agg hr =>
            obtain ⟨v, h1, h2⟩ := run_part (P := P) (bm := bm) (tinfo_spec (htt _ _ hj)) hr hp
            have : ¬ m ≤ n := by omega
            exact ⟨v, by simp [Instr.index, asIntOf, run_underlying hu, this, (tinfo_spec (htt _ _ hj)).run_size, h1], .base h2⟩
        · simp at hp
      · simp at hp
    · simp at hp
  · rename_i i s q hi hx hix
    have hix' := h.eval hix
    rw [h.evalV hx]
    generalize a.eval ix = vi at hix' ⊢
    split at hp
    · rename_i n hk hn
      split at hp <;> simp at hp
      rename_i b hb
      subst hp
      obtain ⟨k, rfl⟩ := idxOf_spec hn hix'
      have hu := (tinfo_spec (htt _ _ hi)).str hk
      refine ⟨_, ?_, .base (.one (.v _ rfl (by simp)))⟩
      have hs : s[n]? = some b := by
        have hlt : n < s.data.size := by
          rcases Nat.lt_or_ge n s.data.size with h' | h'
          · exact h'
          · rw [Array.getElem?_eq_none h'] at hb; cases hb
        have hlt' : n < s.size := hlt
        rw [getElem?_pos s n hlt']
        rw [getElem?_pos s.data n hlt] at hb
        exact hb
      simp [Instr.index, asIntOf, run_underlying hu, hs]
    · simp at hp
  · simp at hp
theorem extract_ok (h : SimX B w0 S0 S g bm st a w) {x : Operand} {n : Nat} {p : PV} (hp : pureOp tt T st.get (.extract x n) = some p) :
    Val P S bm w (Instr.extract (a.eval x) n) p := by
  simp only [pureOp] at hp
  split at hp
  · rename_i ps hx
    have hx' := h.eval hx
    generalize a.eval x = vx at hx' ⊢
    cases hx' with
    | base hx' => cases hx'
    | tup hx' =>
      obtain ⟨v, hv, hr⟩ := hx'.get hp
      exact ⟨v, by simp [Instr.extract, hv], .base hr⟩
  · simp at hp
theorem run_places (htt : ∀ t i, tt t = some i → tinfo P t = some i) : ∀ {l : List Field} {pl : List (Nat × Nat)}, places tt (l.map fun f => (f.offset, f.type)) = some pl → ∀ w : World,
    (l.mapM fun f => do pure (f.offset, ← sizeOf f.type) : Sem (List (Nat × Nat))).run P w = .ok pl w
  | [], pl, hpl, w => by simp [places] at hpl; subst hpl; simp
  | f :: l, pl, hpl, w => by
    simp only [List.map_cons, places] at hpl
    split at hpl
    · rename_i s l' hs hl'
      simp at hpl
      subst hpl
      obtain ⟨fi, hfi, rfl⟩ := szOf_spec htt hs
      have := run_places htt hl' w
      simp at this
      simp [hfi.run_size, this]
    · simp at hpl
theorem build_ok (htt : ∀ t i, tt t = some i → tinfo P t = some i) (h : SimX B w0 S0 S g bm st a w) {t : TypeId} {parts : Array (Nat × Operand)} {p : PV} (hp : pureOp tt T st.get (.build t parts) = some p) :
    Val P S bm w (Instr.build t (parts.map fun (i, x) => (i, a.eval x))) p := by
  simp only [pureOp] at hp
  split at hp
  · rename_i i ps hi hps
    have ht := tinfo_spec (htt _ _ hi)
    obtain ⟨z, hz, hzc⟩ := ht.zero w
    have hparts := rdParts_ok h hps
    have hz' : RepL S w (i.zero.map Zc.cell) z.cells.toList := by rw [hzc]; exact zero_rep S w _
    split at hp
    · rename_i fs hk
      obtain ⟨fields, hu, rfl⟩ := ht.struct hk
      split at hp
      · rename_i pl hpl
        cases hf : fillC (fun f => pl[f]?) (i.zero.map Zc.cell) ps with
        | none => simp [hf] at hp
        | some r =>
          simp [hf] at hp
          subst hp
          obtain ⟨rv, h1, h2⟩ := fill_ok hparts hz' hf
          refine ⟨.agg rv.toArray, ?_, .base (.agg h2)⟩
          simp at h1
          have hm : (fields.mapM fun f => do pure (f.offset, ← sizeOf f.type) : Sem (Array (Nat × Nat))).run P w = .ok pl.toArray w := by
            rw [Array.mapM_eq_mapM_toList]
            simp only [Sem.run_map]
            rw [run_places htt hpl w]
            rfl
          simp [Instr.build, hz, run_underlying hu]
          simp at hm
          rw [hm]
          simp [h1]
      · simp at hp
    · rename_i n e hk
      have hu := ht.array hk
      split at hp
      · rename_i s hs
        obtain ⟨ei, hei, rfl⟩ := szOf_spec htt hs
        cases hf : fillC (fun j => some (j * ei.size, ei.size)) (i.zero.map Zc.cell) ps with
        | none => simp [hf] at hp
        | some r =>
          simp [hf] at hp
          subst hp
          obtain ⟨rv, h1, h2⟩ := fill_ok hparts hz' hf
          refine ⟨.agg rv.toArray, ?_, .base (.agg h2)⟩
          simp at h1
          simp [Instr.build, hz, run_underlying hu, hei.run_size, h1]
      · simp at hp
    · simp at hp
  · simp at hp
theorem len_ok (htt : ∀ t i, tt t = some i → tinfo P t = some i) (h : SimX B w0 S0 S g bm st a w) {t ty : TypeId} {x : Operand} {p : PV} (hp : pureOp tt T st.get (.call { callee := .builtin .len, args := #[x], argTypes := #[t] }) = some p) :
    Val P S bm w (Builtin.len_ #[t] ty #[a.eval x]) p := by
  simp only [pureOp] at hp
  split at hp
  · rename_i i q hi hx
    have ht := tinfo_spec (htt _ _ hi)
    have hx' := h.eval hx
    generalize a.eval x = vx at hx' ⊢
    split at hp <;> simp at hp
    · rename_i e _ els hk
      subst hp
      have hu := ht.slice hk
      cases hx' with
      | base hx' => cases hx' with
        | one hx' =>
          refine ⟨.int .i64 els.length, ?_, .base (.one (.v _ rfl (by simp)))⟩
          cases hx' with
          | nil a => simp [Builtin.len_, run_underlying hu, goInt]
          | slice _ a c e b o m hc hx he h0 ha hm hr => simp [Builtin.len_, run_underlying hu, goInt]
    · rename_i s hk
      subst hp
      have hu := ht.str hk
      cases hx' with
      | base hx' => cases hx' with
        | one hx' => cases hx'; exact ⟨.int .i64 s.size, by simp [Builtin.len_, run_underlying hu, goInt], .base (.one (.v _ rfl (by simp)))⟩
    · rename_i n e hk
      subst hp
      have hu := ht.array hk
      exact ⟨.int .i64 n, by simp [Builtin.len_, run_underlying hu, goInt], .base (.one (.v _ rfl (by simp)))⟩
  · simp at hp
end
end Go.Ab
end
